/- The value semantics is sound for whole functions; the signatures of the program. -/
import Derived.Test.YtpkfpbpbkabkdaaGreatEngineC
import Derived.Scope
import Derived.Test.YtpkfpbpbkabkdaaGreatProg
import Derived.KernelRfl
set_option linter.unusedSimpArgs false
set_option linter.unusedVariables false
namespace Go.Vs
variable {P:Program} {Eqs:TypeId→Option K} {Sg:FuncId→Option aL} {F:(f:FuncId)→(g:aL)→g.A→Option g.B} {R:Type}
variable {Z Z' Z0:Nat→Prop} {ψ ψ' ψ0:Nat→Value} {h h':Hp} {w w' w0:World} {B0:Nat} {O N:Nat→Prop}
def dV(st:St):(l:List (Nat×Nat×OK))→FV (l.map (·.2.2))→List vE
 |[],_=>[]
 |(s,id,ok)::r,x=>(id,(nk (look st.tmps s)).head?,.own ok x.1)::dV st r x.2
theorem tk(st:St):∀(l:List (Nat×Nat×OK)) (x:FV (l.map (·.2.2))),da (dV st l x)=o6 l x
 |[],_=>rfl
 |(s,id,ok)::r,x=>by simp only[dV,o6];rw[←tk st r x.2];rfl
theorem rk(st:St):∀(l:List (Nat×Nat×OK)) (x:FV (l.map (·.2.2))),(dV st l x).map (·.1)=l.map (·.2.1)
 |[],_=>rfl
 |(s,id,ok)::r,x=>by simp only[dV,List.map_cons];rw[rk st r x.2]
theorem vQ(st:St):∀(l:List (Nat×Nat×OK)) (x:FV (l.map (·.2.2))),(dV st l x).filterMap (·.2.1)=l.flatMap fun p=>nk (look st.tmps p.1)
 |[],_=>rfl
 |(s,id,ok)::r,x=>by
  simp only[dV,List.flatMap_cons]
  rw[dp,vQ st r x.2]
  simp only[]
  rw[uz]
theorem pC{st:St}{s id:Nat}{ok:OK}{r:List (Nat×Nat×OK)}{x:FV (((s,id,ok)::r).map (·.2.2))}(hd:l0 st ((s,id,ok)::r)=some x):dt st.heap ok (look st.tmps s)=some x.1∧l0 st r=some x.2:=by
 have e:l0 st ((s,id,ok)::r)=(match dt st.heap ok (look st.tmps s),l0 st r with
  |some x,some y=>some ((x,y):ok.T×FV (r.map (·.2.2)))
  |_,_=>none):=rfl
 rw[e]at hd
 clear e
 generalize dt st.heap ok (look st.tmps s)=o1 at hd ⊢
 generalize l0 st r=o2 at hd ⊢
 cases o1 with
 |none=>cases hd
 |some x1 =>
  cases o2 with
  |none=>cases hd
  |some y1=>have:=Option.some.inj hd;subst this;exact⟨rfl,rfl⟩
theorem yu{hd:Hp}{st:St}:∀(l:List (Nat×Nat×OK)) (x:FV (l.map (·.2.2))),l0 st l=some x→(∀s∈(l.flatMap fun p=>nk (look st.tmps p.1)),hd s=st.heap.get s) →
  ∀e∈dV st l x,tc Z ψ hd w h' ψ' e
 |[],_,_,_,e,he=>by simp[dV]at he
 |(s,id,ok)::r,x,hx,hk,e,he=>by
  obtain⟨h1,h2⟩:=pC hx
  simp only[List.flatMap_cons]at hk
  simp only[dV]at he
  rcases List.mem_cons.1 he with rfl|he
  ·exact HW h1 fun s hs=>hk s (List.mem_append_left _ hs)
  ·exact yu r x.2 h2 (fun s hs=>hk s (List.mem_append_right _ hs)) e he
theorem DY{st:St}{s:Nat}{k:K}{r:List (Nat×K)}{x:Dg (((s,k)::r).map (·.2))}(hd:o4 st ((s,k)::r)=some x):eU k st.heap (look st.tmps s)=some x.1∧o4 st r=some x.2:=by
 have e:o4 st ((s,k)::r)=(match eU k st.heap (look st.tmps s),o4 st r with
  |some x,some y=>some ((x,y):k.T×Dg (r.map (·.2)))
  |_,_=>none):=rfl
 rw[e]at hd
 clear e
 generalize eU k st.heap (look st.tmps s)=o1 at hd ⊢
 generalize o4 st r=o2 at hd ⊢
 cases o1 with
 |none=>cases hd
 |some x1 =>
  cases o2 with
  |none=>cases hd
  |some y1=>have:=Option.some.inj hd;subst this;exact⟨rfl,rfl⟩
theorem dL{T:List (Nat×AV)}{n:Nat}{a:Act}(eg:∀p∈T,ao Z ψ h w p.2 (a.tmps.getD p.1 undef))(hs:a.tmps.size=n)(hd:a.defers=[]):cx Z ψ h w n (look T) a:=by
 refine⟨fun d=>?_,hs,hd⟩
 induction T with
 |nil=>simp only[look,ao]
 |cons p r ih =>
  obtain⟨i,v⟩:=p
  simp only[look]
  split
  ·rename_i e;subst e;exact eg _ List.mem_cons_self
  ·exact ih fun p hp=>eg p (List.mem_cons_of_mem _ hp)
section
variable {st:St} {n:Nat} {a:Act}
theorem tl(g:Good Z ψ st.heap.get w B0 O)(t:cx Z ψ st.heap.get w n (look st.tmps) a)(hz:∀b,Z b→Z' b):∀(l:List (Nat×K)) (x:Dg (l.map (·.2))),o4 st l=some x →
  (∀id b,AV.bp id∈(l.flatMap fun p=>(look st.tmps p.1).cells)→st.heap.get id≠none→ob (ψ id)=some b→Z' b)→∀p∈o5 l x,ao Z' ψ' h' w p.2 (a.tmps.getD p.1 undef)
 |[],_,_,_,p,hp=>by simp[o5]at hp
 |(s,k)::r,x,hx,hf,p,hp=>by
  obtain⟨h1,h2⟩:=DY hx
  simp only[List.flatMap_cons]at hf
  simp only[o5]at hp
  rcases List.mem_cons.1 hp with rfl|hp
  ·exact qj g hz (fun id b bD=>hf id b (List.mem_append_left _ bD)) h1 (t.rep s)
  ·exact tl g t hz r x.2 h2 (fun id b bD=>hf id b (List.mem_append_right _ bD)) p hp
theorem rl(t:cx Z ψ st.heap.get w n (look st.tmps) a):∀(l:List (Src×Nat×BK)) (ids:List Nat),B7 st l=some ids→(∀i∈ids,st.heap.get i≠none) →
  (∀p∈ids.zip (l.map (·.2.1)),h' p.2≠none→ψ' p.2=ψ p.1)→∀p∈iQ l,ao Z' ψ' h' w p.2 (a.tmps.getD p.1 undef)
 |[],_,_,_,_,p,hp=>by simp[iQ]at hp
 |(src,lr,b)::r,ids,hx,hi,hZ,p,hp=>by
  simp only[B7]at hx
  split at hx
  ·rename_i i is h1 h2
   cases hx
   simp only[List.map_cons,List.zip_cons_cons]at hZ
   have ih:=rl t r is h2 (fun j hj=>hi j (List.mem_cons_of_mem _ hj)) (fun p hp=>hZ p (List.mem_cons_of_mem _ hp)) p
   cases src with
   |slot s =>
    simp only[iQ]at hp
    rcases List.mem_cons.1 hp with rfl|hp
    ·simp only[Qf]at h1
     obtain⟨sz,h3⟩:=nF h1
     have h4:=t.rep s
     rw[h3]at h4
     exact wH h4 (hi i List.mem_cons_self) (hZ (i,lr) List.mem_cons_self)
    ·exact ih hp
   |cap s j=>exact ih (by simpa only[iQ] using hp)
  ·cases hx
theorem DZ{hh:Heap}{ids:List (Nat×Nat)}(hi:∀p∈ids,hh.get p.1≠none)(hZ:∀p∈ids,h' p.2≠none→ψ' p.2=ψ p.1):∀(cap:List AV) (is Al:List Nat) (vs:List Value),iO cap=some is →
  is.map (fun i=>(ids.find? (·.1==i)).map (·.2))=Al.map some→ah Z ψ hh.get w cap vs→ah Z' ψ' h' w (Al.map fun i=>.ref i 0 0 0) vs
 |[],is,Al,vs,h1,h2,hr=>by
  simp only[iO]at h1
  cases h1
  cases Al with
  |nil=>simpa only[List.map_nil,ah] using hr
  |cons c r=>simp at h2
 |v::cap,is,Al,vs,h1,h2,hr=>by
  simp only[iO]at h1
  split at h1
  ·rename_i i is' h3 h4
   cases h1
   cases Al with
   |nil=>simp at h2
   |cons c r =>
    simp only[List.map_cons,List.cons.injEq]at h2
    obtain⟨h5,h6⟩:=h2
    simp only[List.map_cons,ah]at hr ⊢
    obtain⟨u,us,rfl,h7,h8⟩:=hr
    obtain⟨sz,rfl⟩:=nF h3
    cases hf:ids.find? (·.1==i) with
    |none=>rw[hf]at h5;cases h5
    |some p =>
     rw[hf]at h5
     have hm:=List.mem_of_find?_eq_some hf
     have he:=List.find?_some hf
     simp only[Option.map_some,Option.some.injEq]at h5
     have Rf:p.1=i:=by simpa using he
     refine⟨u,us,rfl,wH h7 (by rw[←Rf];exact hi p hm) (fun hn=>?_),DZ hi hZ cap is' r us h4 h6 h8⟩
     rw[←h5,←Rf];exact hZ p hm (by rw[h5];exact hn)
  ·cases h1
theorem vR(t:cx Z ψ st.heap.get w n (look st.tmps) a){ids:List (Nat×Nat)}(hi:∀p∈ids,st.heap.get p.1≠none)(hZ:∀p∈ids,h' p.2≠none→ψ' p.2=ψ p.1):∀(l:List (Nat×FuncId×List Nat)),HT st ids l=true →
  ∀p∈wB l,ao Z' ψ' h' w p.2 (a.tmps.getD p.1 undef)
 |[],_,p,hp=>by simp[wB]at hp
 |(s,f,Al)::r,hx,p,hp=>by
  simp only[HT,Bool.and_eq_true]at hx
  simp only[wB,List.map_cons]at hp
  rcases List.mem_cons.1 hp with rfl|hp
  ·have h1:=hx.1
   split at h1
   ·rename_i f' cap hl
    simp only[Bool.and_eq_true,decide_eq_true_eq]at h1
    obtain⟨rfl,h2⟩:=h1
    split at h2
    ·rename_i is YT
     have h4:=t.rep s
     rw[hl]at h4
     simp only[ao]at h4 ⊢
     obtain⟨vs,h5,h6⟩:=h4
     exact⟨vs,h5,DZ hi hZ cap is Al _ YT (of_decide_eq_true h2) h6⟩
    ·cases h2
   ·cases h1
  ·exact vR t hi hZ r hx.2 p hp
theorem tn(t:cx Z ψ st.heap.get w n (look st.tmps) a):∀(l:List (Nat×Nat×OK)) (x:FV (l.map (·.2.2))),l0 st l=some x→(∀e∈dV st l x,h' e.1≠none→ψ' e.1=iX ψ e.2.1) →
  ∀p∈(l.map fun p=>(p.1,AV.bp p.2.1)),ao Z' ψ' h' w p.2 (a.tmps.getD p.1 undef)
 |[],_,_,_,p,hp=>by simp at hp
 |(s,id,ok)::r,x,hx,hZ,p,hp=>by
  obtain⟨h1,h2⟩:=pC hx
  simp only[dV]at hZ
  simp only[List.map_cons]at hp
  rcases List.mem_cons.1 hp with rfl|hp
  ·exact Cj h1 (t.rep s) (hZ _ List.mem_cons_self)
  ·exact tn t r x.2 h2 (fun e he=>hZ e (List.mem_cons_of_mem _ he)) p hp
end
theorem tp{st:St}{m:Nat}:∀(l:List (Nat×Nat×OK)) (x:FV (l.map (·.2.2))),mA st m l=true→∃o,(m,some m,o)∈dV st l x
 |[],_,h=>by cases h
 |(s,id,ok)::r,x,h=>by
  simp only[mA,Bool.or_eq_true,Bool.and_eq_true,beq_iff_eq]at h
  rcases h with⟨rfl,h⟩|h
  ·split at h
   ·rename_i i hl
    have hi:i=id:=by simpa using h
    subst hi
    exact⟨_,by simp only[dV,hl,nk,List.head?_cons];exact List.mem_cons_self⟩
   ·cases h
  ·obtain⟨o,ho⟩:=tp r x.2 h
   exact⟨o,List.mem_cons_of_mem _ ho⟩
theorem rm{st:St}{m:Nat}:∀(l:List (Nat×Nat×OK)) (x:FV (l.map (·.2.2))),l0 st l=some x→mA st m l=true→st.heap.get m≠none
 |[],_,_,h=>by cases h
 |(s,id,ok)::r,x,hx,h=>by
  obtain⟨h1,h2⟩:=pC hx
  simp only[mA,Bool.or_eq_true,Bool.and_eq_true,beq_iff_eq]at h
  rcases h with⟨rfl,h⟩|h
  ·split at h
   ·rename_i i hl
    have hi:i=id:=by simpa using h
    subst hi
    rw[hl]at h1
    simp only[dt]at h1
    split at h1
    ·rename_i hg;rw[hg];simp
    ·cases h1
   ·cases h
  ·exact rm r x.2 h2 h
theorem H4{jV:List AV}{hh:Heap}{b:Nat}(hb:oP Z ψ hh.get jV b):Z b∨Own ψ hh.get b:=hb.imp (fun h=>h) fun⟨i,_,h2,h3⟩=>⟨i,h2,h3⟩
theorem fi{sh:Shape}{st:St}{x:sh.T}{n:Nat}{a:Act}(hx:cj sh st=some x)(k:Ok Z0 w0 O ψ0 Z ψ st.heap.get w)(t:cx Z ψ st.heap.get w n (look st.tmps) a) :
  ∃Z' ψ',Ok Z0 w0 O ψ0 Z' ψ' (ai sh x).heap.get w∧cx Z' ψ' (ai sh x).heap.get w n (look (ai sh x).tmps) a:=by
 unfold cj at hx
 split at hx
 ·cases hx
 rename_i ids qN
 split at hx
 ·rename_i xv xb xr hv hb hr Au
  cases hx
  simp only[Bool.and_eq_true]at Au
  obtain⟨D0,yc,YU,YV⟩:=Au
  obtain⟨hlen,ye⟩:=il _ _ _ hb
  have Qt:(sh.boxes.map (·.2.1)).length=sh.bs.length:=by simp[Shape.bs]
  let L:List vE:=b8 sh.bs st.heap ids (sh.boxes.map (·.2.1)) 9000 xb++dV st sh.rows xr
  have eH:da L=(ai sh (xv,xb,xr)).heap:=by
   show da (_++_)=_
   rw[lF,ij _ _ _ _ _ _ hb Qt,tk];rfl
  have eN:L.map (·.1)=qd sh:=by
   show(_++_:List vE).map _=_
   rw[List.map_append,fV _ _ _ _ _ _ hb Qt,rk];rfl
  have eS:L.filterMap (·.2.1)=Dk st sh ids:=by
   show(_++_:List vE).filterMap _=_
   rw[List.filterMap_append,jA _ _ _ _ _ _ hb Qt,vQ];rfl
  have hn:bR (L.map (·.1))=true:=by rw[eN];exact yc
  have hZ:=wG (ψ:=ψ) hn
  have hz:∀b,Z b→oP Z ψ st.heap.get (wA st sh ids) b:=fun b hb=>.inl hb
  have FL:=(qp D0).2 st.heap
  have g':Good (oP Z ψ st.heap.get (wA st sh ids)) (dK ψ L) (da L).get w w0.heap.size O:=by
   refine uA k.dA D0 hn eS fun e he=>?_
   rcases List.mem_append.1 he with he|he
   ·exact kG k.dA hz sh.bs ids _ 9000 xb hb (fun id b bD h1 h2=>.inr ⟨id,List.mem_append_right _ bD,h1,h2⟩) (fun s hs=>FL s (List.mem_append_left _ hs)) (fun e he=>hZ e (List.mem_append_left _ he)) e he
   ·exact yu sh.rows xr hr (fun s hs=>FL s (List.mem_append_right _ hs)) e he
  have Ly:∀p∈ids.zip (sh.boxes.map (·.2.1)),(da L).get p.2≠none→dK ψ L p.2=ψ p.1:=fun p hp aV=>by
   obtain⟨o,ho⟩:=jB sh.bs ids (sh.boxes.map (·.2.1)) 9000 xb (hh:=st.heap) hlen p hp
   exact hZ (p.2,some p.1,o) (List.mem_append_left _ ho) aV
  have um:∀p∈ids.zip (sh.boxes.map (·.2.1)),st.heap.get p.1≠none:=fun p hp=>ye _ (List.of_mem_zip hp).1
  refine⟨oP Z ψ st.heap.get (wA st sh ids),dK ψ L,?_,?_⟩
  ·rw[←eH]
   refine⟨g',fun b hb=>.inl (k.eP b hb),fun b hb=>?_,k.os,k.tape,k.output,k.size,k.block,fun i hi aV=>?_⟩
   ·rcases H4 hb with h1|⟨id,h1,h2⟩
    ·exact k.dF b h1
    ·exact .inr (k.dA.live id b h1 h2).2.symm
   ·obtain⟨o,ho⟩:=Option.ne_none_iff_exists'.1 aV
    obtain⟨s,hm⟩:=mC ho
    have iu:i∈qd sh:=by rw[←eN];exact List.mem_map.2 ⟨_,hm,rfl⟩
    have h1:=List.all_eq_true.1 YU i iu
    simp only[Bool.or_eq_true,decide_eq_true_eq]at h1
    rcases h1 with(h1|h1)|h1
    ·omega
    ·obtain⟨p,hp,he⟩:=List.any_eq_true.1 h1
     simp only[Bool.and_eq_true,beq_iff_eq]at he
     have h2:=Ly p hp (by rw[he.2];exact aV)
     rw[he.1,he.2]at h2
     rw[h2]
     exact k.fix i hi (by have:=um p hp;rwa [he.1]at this)
    ·obtain⟨o',ma⟩:=tp sh.rows xr h1
     have h2:dK ψ L i=ψ i:=hZ (i,some i,o') (List.mem_append_right _ ma) aV
     rw[h2]
     exact k.fix i hi (rm sh.rows xr hr h1)
  ·rw[←eH]
   refine dL (fun p hp=>?_) t.size t.defers
   simp only[ai]at hp
   rcases List.mem_append.1 hp with hp|hp
   ·exact tl k.dA t hz sh.wc xv hv (fun id b bD h1 h2=>.inr ⟨id,List.mem_append_left _ bD,h1,h2⟩) p hp
   ·rcases List.mem_append.1 hp with hp|hp
    ·exact rl t sh.boxes ids qN ye Ly p hp
    ·rcases List.mem_append.1 hp with hp|hp
     ·exact vR t um Ly sh.fns YV p hp
     ·exact tn t sh.rows xr hr (fun e he=>hZ e (List.mem_append_right _ he)) p hp
 ·cases hx
end Go.Vs
namespace Go.Vs
variable {P:Program} {Eqs:TypeId→Option K} {Sg:FuncId→Option aL} {F:(f:FuncId)→(g:aL)→g.A→Option g.B} {R:Type}
variable {Z Z' Z0:Nat→Prop} {ψ ψ' ψ0:Nat→Value} {h h':Hp} {w w' w0:World} {B0:Nat} {O N:Nat→Prop}
def Reach(P:Program)(b:Frame)(cs:List Frame)(si:Act→World→Prop)(m:Machine):Prop:=∃a' w' todo,si a' w'∧Steps P m (lone { b.at a' todo with mode:=.returning } cs w')
theorem Reach.head{b:Frame}{cs:List Frame}{si:Act→World→Prop}{m m':Machine}(h:step P m=.next m')(r:Reach P b cs si m'):Reach P b cs si m:=by
 obtain⟨a,w,todo,h1,h2⟩:=r
 exact⟨a,w,todo,h1,.head h h2⟩
theorem Reach.steps{b:Frame}{cs:List Frame}{si:Act→World→Prop}{m m':Machine}(h:Steps P m m')(r:Reach P b cs si m'):Reach P b cs si m:=by
 obtain⟨a,w,todo,h1,h2⟩:=r
 exact⟨a,w,todo,h1,h.trans h2⟩
theorem pG(V:Env P Eqs Sg F)(hm:P.follows .mixedOrders=true){n:Nat}{ann:Nat→Option Shape}{J:(sh:Shape)→List Item→sh.T→Option R}{ret:St→Option R}{r:R}{b:Frame}{cs:List Frame}{si:Act→World→Prop}
  (hJ:∀sh c k x Z ψ a w,J sh (.inLoop c::k) x=some r→Ok Z0 w0 O ψ0 Z ψ (ai sh x).heap.get w→cx Z ψ (ai sh x).heap.get w n (look (ai sh x).tmps) a→Reach P b cs si (lone (b.at a (.code c::.inLoop c::k)) cs w))
  (qO:∀st Z ψ a w,ret st=some r→Ok Z0 w0 O ψ0 Z ψ st.heap.get w→cx Z ψ st.heap.get w n (look st.tmps) a→si a w) :
  ∀(fu:Nat) (items:List Item) (st:St) (Z:Nat→Prop) (ψ:Nat→Value) (a:Act) (w:World),au P Eqs Sg F n ann J ret fu items st=some r→Ok Z0 w0 O ψ0 Z ψ st.heap.get w→cx Z ψ st.heap.get w n (look st.tmps) a →
   Reach P b cs si (lone (b.at a items) cs w)
 |0,items,st,Z,ψ,a,w,hx,k,t=>by
  cases items<;>simp only[au]at hx<;>cases hx
 |fu+1,[],st,Z,ψ,a,w,hx,k,t=>⟨a,w,[],qO st Z ψ a w (by simpa only[au] using hx) k t,.one step_end⟩
 |fu+1,it::JN,st,Z,ψ,a,w,hx,k,t=>by
  have ih:=pG V hm (ann:=ann) hJ qO fu
  have loop:∀c,(match ann (qe c) with
    |none=>none
    |some sh=>match cj sh st with
     |some x=>J sh (.inLoop c::JN) x
     |none=>none)=some r→Reach P b cs si (lone (b.at a (.code c::.inLoop c::JN)) cs w):=fun c hx=>by
   split at hx
   ·cases hx
   ·rename_i sh hsh
    split at hx
    ·rename_i x Yo
     obtain⟨Z',ψ',k',t'⟩:=fi Yo k t
     exact hJ sh c JN x Z' ψ' a w hx k' t'
    ·cases hx
  cases it with
  |inBlock id=>exact .head step_inBlock (ih JN st Z ψ a w (by simpa only[au] using hx) k t)
  |inScope c=>exact .head step_inScope (ih JN st Z ψ a w (by simpa only[au] using hx) k t)
  |inLoop c=>exact .head step_inLoop (loop c (by simp only[au]at hx;exact hx))
  |code c =>
   cases c with
   |skip=>exact .head step_skip (ih JN st Z ψ a w (by simpa only[au] using hx) k t)
   |label l=>exact .head step_label (ih JN st Z ψ a w (by simpa only[au] using hx) k t)
   |seq x y=>exact .head step_seq (ih _ st Z ψ a w (by simpa only[au] using hx) k t)
   |cond c x y =>
    simp only[au]at hx
    split at hx
    ·rename_i tt ht
     have h1:=py t c
     rw[ht]at h1
     simp only[ao]at h1
     cases tt with
     |true=>exact .head (step_cond h1) (ih _ st Z ψ a w hx k t)
     |false=>exact .head (step_cond h1) (ih _ st Z ψ a w hx k t)
    ·cases hx
   |scope c=>exact .head step_scope (ih _ st Z ψ a w (by simpa only[au] using hx) k t)
   |block id c=>exact .head step_block (ih _ st Z ψ a w (by simpa only[au] using hx) k t)
   |loop c =>
    simp only[au]at hx
    cases fu with
    |zero=>simp only[au]at hx;cases hx
    |succ fu=>exact .head step_loop (loop c (by simp only[au]at hx;exact hx))
   |exit id =>
    simp only[au]at hx
    split at hx
    ·rename_i k' hk;exact .head (step_exit hk) (ih _ st Z ψ a w hx k t)
    ·cases hx
   |ret=>exact⟨a,w,_,qO st Z ψ a w (by simpa only[au] using hx) k t,.one step_ret⟩
   |region id ops draw =>
    simp only[au]at hx
    have hw:=Cx V hm (Q:=fun e a w=>e=.normal∧∃dE Z ψ,au P Eqs Sg F n ann J ret fu JN dE=some r∧Ok Z0 w0 O ψ0 Z ψ dE.heap.get w∧cx Z ψ dE.heap.get w n (look dE.tmps) a) hx k t (fun dE Z ψ a w h1 h2 h3=>⟨rfl,dE,Z,ψ,h1,h2,h3⟩)
    obtain⟨e,a',w',⟨rfl,dE,Z',ψ',h1,h2,h3⟩,Lx⟩:=hw b JN cs
    exact .steps Lx (ih JN dE Z' ψ' a' w' h1 h2 h3)
   |_=>simp only[au]at hx;cases hx
  |_=>simp only[au]at hx;cases hx
theorem pH{hh:Heap}{n:Nat}{s:List (Nat×AV)}{a:Act}(g:Good Z ψ hh.get w B0 O)(t:cx Z ψ hh.get w n (look s) a):∀(l:List ResultVar) (acc:Array Value) (vs:List AV),vu P hh s l=some vs →
  ∃us,(l.foldlM (fun(bs:Array Value) r=>do let y ←(match r with | .tmp t=>pure (a.tmps.getD t undef) | .cell p ty=>do loadVar ty (←asAddr (a.tmps.getD p undef)):Sem Value);pure (bs.push y)) acc:Sem (Array Value)).run P w=.ok (acc++us.toArray) w∧ah Z ψ hh.get w vs us
 |[],acc,vs,hx=>by
  simp only[vu]at hx
  cases hx
  exact⟨[],by simp,by simp only[ah]⟩
 |.tmp d::l,acc,vs,hx=>by
  simp only[vu]at hx
  split at hx
  ·rename_i fW h1
   cases hx
   obtain⟨us,h2,h3⟩:=pH g t l (acc.push (a.tmps.getD d undef)) fW h1
   refine⟨a.tmps.getD d undef::us,?_,by simp only[ah];exact⟨_,_,rfl,t.rep d,h3⟩⟩
   simp only[List.foldlM_cons,Sem.run_bind,Sem.run_pure,Result.andThen_ok]
   rw[h2];simp
  ·cases hx
 |.cell d ty::l,acc,vs,hx=>by
  simp only[vu]at hx
  split at hx
  ·rename_i id sz off hd
   split at hx
   ·rename_i bt cs hg
    split at hx
    ·rename_i v fW hv h1
     cases hx
     have h4:=t.rep d
     rw[hd]at h4
     simp only[ao]at h4
     obtain⟨ad,h5,h6⟩:=h4
     obtain⟨gg,ws,e1,e2,e3,e4⟩:=g.box id bt cs hg
     have h7:=h6 (by rw[hg];simp)
     rw[e1]at h7
     simp only[Ov,Nat.zero_mul,Nat.zero_add]at h7
     subst h7
     obtain⟨V,h8,h9⟩:=iS (a:=⟨gg,off,none⟩) (e3.drop off) (fun j u hu=>by
      rw[bY];simp only[World.cell?,e2];rw[List.getElem?_drop]at hu;simpa using hu) hv
     have l8:(loadVar ty ⟨gg,off,none⟩).run P w=.ok V w:=by
      have:=h8
      simpa[Instr.loadAt,Instr.sureAddr] using this
     obtain⟨us,h2,h3⟩:=pH g t l (acc.push V) fW h1
     refine⟨V::us,?_,by simp only[ah];exact⟨_,_,rfl,h9,h3⟩⟩
     have we:(asAddr (a.tmps.getD d undef)).run P w=.ok ⟨gg,off,none⟩ w:=by rw[h5];rfl
     simp only[List.foldlM_cons,Sem.run_bind,we,Sem.run_pure,Result.andThen_ok,l8]
     rw[h2];simp
    ·cases hx
   ·cases hx
  ·cases hx
theorem D1{fn:Func}{hh:Heap}{n:Nat}{s:List (Nat×AV)}{a:Act}{vs:List AV}(g:Good Z ψ hh.get w B0 O)(t:cx Z ψ hh.get w n (look s) a)(hx:vu P hh s fn.results.toList=some vs) :
  ∃us v,(results fn a.tmps).run P w=.ok v w∧ah Z ψ hh.get w vs us∧v=(if us.length=1 then us.headD undef else .tuple us.toArray):=by
 obtain⟨us,h1,h2⟩:=pH (P:=P) g t fn.results.toList #[] vs hx
 refine⟨us,_,?_,h2,rfl⟩
 have h3:(fn.results.mapM fun r=>(match r with | .tmp t=>pure (a.tmps.getD t undef) | .cell p ty=>do loadVar ty (←asAddr (a.tmps.getD p undef)):Sem Value)).run P w=.ok us.toArray w:=by
  rw[Array.mapM_eq_foldlM,←Array.foldlM_toList]
  simpa using h1
 have h4:results fn a.tmps=(do
   let vs ←fn.results.mapM fun r=>(match r with | .tmp t=>pure (a.tmps.getD t undef) | .cell p ty=>do loadVar ty (←asAddr (a.tmps.getD p undef)):Sem Value)
   pure (if h:vs.size=1 then vs[0] else .tuple vs)):=rfl
 rw[h4,Sem.run_bind,h3,Result.andThen_ok,Sem.run_pure]
 congr 1
 by_cases h5:us.length=1
 ·obtain⟨u,rfl⟩:=List.length_eq_one_iff.1 h5
  simp
 ·rw[dif_neg (by simpa using h5),if_neg h5]
end Go.Vs
namespace Go.Vs
variable {P:Program} {Eqs:TypeId→Option K} {Sg:FuncId→Option aL} {F:(f:FuncId)→(g:aL)→g.A→Option g.B} {R:Type}
variable {Z Z' Z0:Nat→Prop} {ψ ψ' ψ0:Nat→Value} {h h':Hp} {w w' w0:World} {B0:Nat} {O N:Nat→Prop}
theorem fj:∀(ps:List PK) (ids:List Nat) (s:Nat) (x:Dg (jX ps)) (us:List Value),ah Z ψ h w ((aH ps ids s x).map (·.2)) us→us.length=ps.length∧∀p∈aH ps ids s x,∃j u,p.1=s+j∧us[j]? = some u∧ao Z ψ h w p.2 u
 |[],ids,s,x,us,hr=>by
  simp only[aH,List.map_nil,ah]at hr
  subst hr
  exact⟨rfl,fun p hp=>by simp[aH]at hp⟩
 |.val k::ps,ids,s,x,us,hr=>by
  simp only[aH,List.map_cons,ah]at hr
  obtain⟨u,hM,rfl,h1,h2⟩:=hr
  obtain⟨h3,h4⟩:=fj ps ids (s+1) x.2 hM h2
  refine⟨by simp[h3],fun p hp=>?_⟩
  simp only[aH]at hp
  rcases List.mem_cons.1 hp with rfl|hp
  ·exact⟨0,u,rfl,rfl,h1⟩
  ·obtain⟨j,u',h5,h6,h7⟩:=h4 p hp
   exact⟨j+1,u',by omega,by simpa using h6,h7⟩
 |.ref::ps,i::ids,s,x,us,hr=>by
  simp only[aH,List.map_cons,ah]at hr
  obtain⟨u,hM,rfl,h1,h2⟩:=hr
  obtain⟨h3,h4⟩:=fj ps ids (s+1) x hM h2
  refine⟨by simp[h3],fun p hp=>?_⟩
  simp only[aH]at hp
  rcases List.mem_cons.1 hp with rfl|hp
  ·exact⟨0,u,rfl,rfl,h1⟩
  ·obtain⟨j,u',h5,h6,h7⟩:=h4 p hp
   exact⟨j+1,u',by omega,by simpa using h6,h7⟩
 |.ref::ps,[],s,x,us,hr=>by
  simp only[aH,List.map_cons,ah]at hr
  obtain⟨u,hM,rfl,h1,h2⟩:=hr
  obtain⟨h3,h4⟩:=fj ps [] (s+1) x hM h2
  refine⟨by simp[h3],fun p hp=>?_⟩
  simp only[aH]at hp
  rcases List.mem_cons.1 hp with rfl|hp
  ·exact⟨0,u,rfl,rfl,h1⟩
  ·obtain⟨j,u',h5,h6,h7⟩:=h4 p hp
   exact⟨j+1,u',by omega,by simpa using h6,h7⟩
 |.own::ps,i::ids,s,x,us,hr=>by
  simp only[aH,List.map_cons,ah]at hr
  obtain⟨u,hM,rfl,h1,h2⟩:=hr
  obtain⟨h3,h4⟩:=fj ps ids (s+1) x hM h2
  refine⟨by simp[h3],fun p hp=>?_⟩
  simp only[aH]at hp
  rcases List.mem_cons.1 hp with rfl|hp
  ·exact⟨0,u,rfl,rfl,h1⟩
  ·obtain⟨j,u',h5,h6,h7⟩:=h4 p hp
   exact⟨j+1,u',by omega,by simpa using h6,h7⟩
 |.own::ps,[],s,x,us,hr=>by
  simp only[aH,List.map_cons,ah]at hr
  obtain⟨u,hM,rfl,h1,h2⟩:=hr
  obtain⟨h3,h4⟩:=fj ps [] (s+1) x hM h2
  refine⟨by simp[h3],fun p hp=>?_⟩
  simp only[aH]at hp
  rcases List.mem_cons.1 hp with rfl|hp
  ·exact⟨0,u,rfl,rfl,h1⟩
  ·obtain⟨j,u',h5,h6,h7⟩:=h4 p hp
   exact⟨j+1,u',by omega,by simpa using h6,h7⟩
 |.B3 f m::ps,ids,s,x,us,hr=>by
  simp only[aH,List.map_cons,ah]at hr
  obtain⟨u,hM,rfl,h1,h2⟩:=hr
  obtain⟨h3,h4⟩:=fj ps (ids.drop m) (s+1) x hM h2
  refine⟨by simp[h3],fun p hp=>?_⟩
  simp only[aH]at hp
  rcases List.mem_cons.1 hp with rfl|hp
  ·exact⟨0,u,rfl,rfl,h1⟩
  ·obtain⟨j,u',h5,h6,h7⟩:=h4 p hp
   exact⟨j+1,u',by omega,by simpa using h6,h7⟩
 |.agg m::ps,ids,s,x,us,hr=>by
  simp only[aH,List.map_cons,ah]at hr
  obtain⟨u,hM,rfl,h1,h2⟩:=hr
  obtain⟨h3,h4⟩:=fj ps (ids.drop m) (s+1) x hM h2
  refine⟨by simp[h3],fun p hp=>?_⟩
  simp only[aH]at hp
  rcases List.mem_cons.1 hp with rfl|hp
  ·exact⟨0,u,rfl,rfl,h1⟩
  ·obtain⟨j,u',h5,h6,h7⟩:=h4 p hp
   exact⟨j+1,u',by omega,by simpa using h6,h7⟩
section
variable {An:FuncId→Nat→Option Shape}
theorem yv(V:Env P Eqs Sg F)(hm:P.follows .mixedOrders=true){f:FuncId}{g:aL}{fn:Func}{y:g.B}{b:Frame}{cs:List Frame}{si:Act→World→Prop}
  (qO:∀st Z ψ a w,o8 P g fn st=some y→Ok Z0 w0 O ψ0 Z ψ st.heap.get w→cx Z ψ st.heap.get w fn.ntmps (look st.tmps) a→si a w) :
  ∀(n:Nat) (sh:Shape) (c:Code) (k:List Item) (x:sh.T) (Z:Nat→Prop) (ψ:Nat→Value) (a:Act) (w:World),lu P Eqs Sg An F f g fn n sh (.inLoop c::k) x=some y →
   Ok Z0 w0 O ψ0 Z ψ (ai sh x).heap.get w→cx Z ψ (ai sh x).heap.get w fn.ntmps (look (ai sh x).tmps) a→Reach P b cs si (lone (b.at a (.code c::.inLoop c::k)) cs w)
 |0,sh,c,k,x,Z,ψ,a,w,hx,_,_=>by simp only[lu]at hx;cases hx
 |n+1,sh,c,k,x,Z,ψ,a,w,hx,ko,t=>by
  simp only[lu]at hx
  exact pG V hm (fun sh c k x Z ψ a w h1 h2 h3=>yv V hm qO n sh c k x Z ψ a w h1 h2 h3) qO fuel _ _ Z ψ a w hx ko t
theorem Cz{n i:Nat}(h:i∈aF n):∃j,j<n∧i=1000+20*j:=by
 unfold aF at h
 obtain⟨j,h1,rfl⟩:=List.mem_map.1 h
 exact⟨j,List.mem_range.1 h1,rfl⟩
theorem LY{α:Type}{l:List α}{a:α}(h:a∈l):(a,a)∈l.zip l:=by
 induction l with
 |nil=>cases h
 |cons b r ih =>
  simp only[List.zip_cons_cons]
  rcases List.mem_cons.1 h with rfl|h
  ·exact List.mem_cons_self
  ·exact List.mem_cons_of_mem _ (ih h)
theorem GD(V:Env P Eqs Sg F)(hm:P.follows .mixedOrders=true){f:FuncId}{g:aL}{n:Nat}{x:g.A}{y:g.B}(hx:FY P Eqs Sg An F f g n x=some y):A5 P f g x y:=by
 intro Z ψ0 w jC hg hr
 unfold FY at hx
 split at hx
 ·cases hx
 rename_i fn c Qu
 have hf:P.funcs[f%1000]? = some fn∧fn.body=some c:=by
  unfold body at Qu
  obtain⟨fn',h1,h2⟩:=Option.bind_eq_some_iff.1 Qu
  obtain⟨c',h3,h4⟩:=Option.map_eq_some_iff.1 h2
  cases h4
  exact⟨h1,h3⟩
 split at hx
 ·rename_i hle
  simp only[Bool.and_eq_true,decide_eq_true_eq]at hle
  obtain⟨hlen,RH⟩:=fj g.ps (aF g.bs.length) 0 x.1 jC hr
  intro cs
  let b:Frame:={ (default:Frame) with fn:=f%1000,kind:=.normal }
  let a0:Act:={ tmps:=jC.toArray++Array.replicate (fn.ntmps-jC.toArray.size) undef,defers:=[] }
  have RI:Frame.enter P (f%1000) jC.toArray .normal=b.at a0 [.code c]:=by
   simp[Frame.enter,Frame.at,hf.1,hf.2,b,a0]
  have ok0:Ok Z w (Own ψ0 (nK g x)) ψ0 Z ψ0 (entry g x).heap.get w :=
   ⟨hg,fun _ h=>h,fun _ h=>.inl h,rfl,rfl,rfl,Nat.le_refl _,fun _ _ _=>rfl,fun _ _ _=>rfl⟩
  have tr0:cx Z ψ0 (entry g x).heap.get w fn.ntmps (look (entry g x).tmps) a0:=by
   refine dL (fun p hp=>?_) (by simp[a0];omega) rfl
   obtain⟨j,u,h1,h2,h3⟩:=RH p hp
   rw[h1]
   have hj:j<jC.length:=(List.getElem?_eq_some_iff.1 h2).1
   have:a0.tmps.getD (0+j) undef=u:=by
    rw[Nat.zero_add,Array.getD_eq_getD_getElem?]
    simp only[a0]
    rw[Array.getElem?_append_left (by simpa using hj)]
    simp[h2]
   rw[this];exact h3
  have qO:∀st Z1 mo a w1,o8 P g fn st=some y→Ok Z w (Own ψ0 (nK g x)) ψ0 Z1 mo st.heap.get w1→cx Z1 mo st.heap.get w1 fn.ntmps (look st.tmps) a →
    a.defers=[]∧∃v,(results fn a.tmps).run P w1=.ok v w1∧∃v' Z' ψ',Ending.returned v=.returned v'∧(∀b,Z b→Z' b)∧(∀b,Z' b→Z b∨Own ψ0 (nK g x) b∨w.heap.size≤b)∧cF ψ0 (nK g x) w w1 ∧
     Good Z' ψ' (jc g y).get w1 w.heap.size (Own ψ0 (nK g x))∧(∀i∈aF g.bs.length,ψ' i=ψ0 i)∧ao Z' ψ' (jc g y).get w1 (dO (aI g.rs (aF g.bs.length) 2000 3000 y.1)) v':=by
   intro st Z1 mo a w1 qO k t
   refine⟨t.defers,?_⟩
   unfold o8 at qO
   split at qO
   ·cases qO
   rename_i vs rO
   split at qO
   ·rename_i y1 y2 hd hb Au
    cases qO
    simp only[Bool.and_eq_true]at Au
    obtain⟨D0,yc⟩:=Au
    obtain⟨us,v,h1,h2,h3⟩:=D1 (P:=P) k.dA t rO
    have Qt:(aF g.bs.length).length=g.bs.length:=by simp[aF]
    let L:List vE:=b8 g.bs st.heap (aF g.bs.length) (aF g.bs.length) 2000 y2++cf g.rs vs 3000 y1
    have eH:da L=jc g (y1,y2):=by
     show da (_++_)=_
     rw[lF,ij _ _ _ _ _ _ hb Qt,fD];rfl
    have eN:L.map (·.1)=oS g:=by
     show(_++_:List vE).map _=_
     rw[List.map_append,fV _ _ _ _ _ _ hb Qt,eF];rfl
    have eS:L.filterMap (·.2.1)=cE g.bs st.heap (aF g.bs.length)++dm g.rs vs:=by
     show(_++_:List vE).filterMap _=_
     rw[List.filterMap_append,jA _ _ _ _ _ _ hb Qt,gQ _ _ _ _ hd]
    have hn:bR (L.map (·.1))=true:=by rw[eN];exact yc
    have hZ:=wG (ψ:=mo) hn
    have hz:∀b,Z1 b→oP Z1 mo st.heap.get (fa g.rs vs++eZ g.bs st.heap (aF g.bs.length)) b:=fun b hb=>.inl hb
    have FL:=(qp D0).2 st.heap
    have g':Good (oP Z1 mo st.heap.get (fa g.rs vs++eZ g.bs st.heap (aF g.bs.length))) (dK mo L) (da L).get w1 w.heap.size (Own ψ0 (nK g x)):=by
     refine uA k.dA D0 hn eS fun e he=>?_
     rcases List.mem_append.1 he with he|he
     ·exact kG k.dA hz g.bs _ _ 2000 y2 hb (fun id b bD h1 h2=>.inr ⟨id,List.mem_append_right _ bD,h1,h2⟩) (fun s hs=>FL s (List.mem_append_left _ hs)) (fun e he=>hZ e (List.mem_append_left _ he)) e he
     ·exact iZ g.rs vs 3000 y1 hd (fun s hs=>FL s (List.mem_append_right _ hs)) e he
    obtain⟨Bi,ye⟩:=il _ _ _ hb
    have LZ:=qq (ids2:=aF g.bs.length) (Z':=oP Z1 mo st.heap.get (fa g.rs vs++eZ g.bs st.heap (aF g.bs.length))) (ψ':=dK mo L) (h':=(da L).get) k.dA hz hb Qt (fun e he=>hZ e (List.mem_append_left _ he)) g.rs vs 3000 y1 us hd
     (fun id b bD h1 h2=>.inr ⟨id,List.mem_append_left _ bD,h1,h2⟩) (fun e he=>hZ e (List.mem_append_right _ he)) h2
    refine⟨v,h1,v,oP Z1 mo st.heap.get (fa g.rs vs++eZ g.bs st.heap (aF g.bs.length)),dK mo L,rfl,fun b hb=>.inl (k.eP b hb),fun b hb=>?_,⟨k.os,k.tape,k.output,k.size,k.block⟩,by rw[←eH];exact g',fun i hi=>?_,?_⟩
    ·rcases H4 hb with h4|⟨id,h4,h5⟩
     ·exact k.dF b h4
     ·exact .inr (k.dA.live id b h4 h5).2.symm
    ·obtain⟨o,ho⟩:=jB (hh:=st.heap) g.bs (aF g.bs.length) (aF g.bs.length) 2000 y2 Bi (i,i) (LY hi)
     rw[gP hn (List.mem_append_left _ ho)]
     obtain⟨j,h4,h5⟩:=Cz hi
     exact k.fix i (by omega) (ye i hi)
    ·rw[←eH]
     have K8:us.length=(aI g.rs (aF g.bs.length) 2000 3000 y1).length:=LZ.length.symm
     rw[h3]
     match hE:aI g.rs (aF g.bs.length) 2000 3000 y1,us,LZ,K8 with
     |[],[],LZ,_=>simp only[dO];simp only[ao];exact⟨#[],rfl,by simpa using LZ⟩
     |[e1],[u],LZ,_ =>
      simp only[ah]at LZ
      obtain⟨u',hM,he,h4,_⟩:=LZ
      cases he
      simpa[dO] using h4
     |e1::e2::er,u1::u2::ur,LZ,_ =>
      simp only[dO,ao]
      exact⟨(u1::u2::ur).toArray,by simp,by simpa using LZ⟩
   ·cases qO
  have reach:=pG V hm (b:=b) (cs:=cs) (fun sh c k x Z ψ a w h1 h2 h3=>yv V hm qO n sh c k x Z ψ a w h1 h2 h3) qO fuel _ _ Z ψ0 a0 w hx ok0 tr0
  obtain⟨a',w',todo,⟨hd,v,wh,hR⟩,hs⟩:=reach
  rw[←RI]at hs
  exact⟨.returned v,w',_,hR,hs,rfl,rfl,hd,rfl,fn,hf.1,wh⟩
 ·cases hx
end
theorem D2(hX:∀f g u,Sg f=some g→g.x=some u→gE P (f%1000) u){G:(f:FuncId)→(g:aL)→Option (g.A→Option g.B)}{An:FuncId→Nat→Option Shape}(Ag:∀t k,Eqs t=some k→kD P t k)(Jx:∀f g,Sg f=some g→im P (f%1000))(hm:P.follows .mixedOrders=true)
  (hG:∀f g u x y,Sg f=some g→G f g=some u→u x=some y→A5 P f g x y):∀(m:Nat) f g x y,Sg f=some g→Fn P Eqs Sg An G m f g x=some y→A5 P f g x y
 |0,f,g,x,y,hs,hx=>by
  simp only[Fn]at hx
  split at hx
  ·rename_i u hu;exact hG f g u x y hs hu hx
  ·cases hx
 |m+1,f,g,x,y,hs,hx=>by
  simp only[Fn]at hx
  split at hx
  ·rename_i u hu;exact hG f g u x y hs hu hx
  ·exact GD ⟨Ag,fun f g x y h1 h2=>D2 hX Ag Jx hm hG m f g x y h1 h2,hX,Jx⟩ hm hx
end Go.Vs
namespace Go.Vs
abbrev FT:=(f:FuncId)→(g:aL)→g.A→Option g.B
variable {P:Program} {Eqs:TypeId→Option K} {Sg:FuncId→Option aL} {R:Type}
def sH(p:Nat→Prop):Prop:=∃m,∀m',m≤m'→p m'
theorem sH.now{p:Nat→Prop}(h:∀m,p m):sH p:=⟨0,fun m _=>h m⟩
theorem sH.and{p q r:Nat→Prop}(h:sH p)(k:sH q)(hr:∀m,p m→q m→r m):sH r:=by
 obtain⟨a,ha⟩:=h
 obtain⟨b,hb⟩:=k
 exact⟨max a b,fun m hm=>hr m (ha m (by omega)) (hb m (by omega))⟩
theorem sH.imp{p r:Nat→Prop}(h:sH p)(hr:∀m,p m→r m):sH r:=by
 obtain⟨a,ha⟩:=h
 exact⟨a,fun m hm=>hr m (ha m hm)⟩
def To(A:Nat→FT)(L:FT):Prop:=∀f g x y,L f g x=some y→sH fun m=>A m f g x=some y
def ToK{α:Type}(A:Nat→α→Option R)(L:α→Option R):Prop:=∀x y,L x=some y→sH fun m=>A m x=some y
def ToJ(A:Nat→(sh:Shape)→List Item→sh.T→Option R)(L:(sh:Shape)→List Item→sh.T→Option R):Prop:=∀sh k x y,L sh k x=some y→sH fun m=>A m sh k x=some y
theorem L0(h:Heap)(id:Nat)(f:FuncId)(vs:List AV):(∀F F':FT,ic Sg F h id f vs some=ic Sg F' h id f vs some) ∨
  ∃ff g x,(∀F F':FT,F ff g x=F' ff g x→ic Sg F h id f vs some=ic Sg F' h id f vs some)∧∀F:FT,F ff g x=none→ic Sg F h id f vs some=none:=by
 unfold ic
 split
 ·exact .inl fun _ _=>rfl
 rename_i g hg
 split
 ·exact .inl fun _ _=>rfl
 split
 ·split
  ·split
   ·rename_i x b hx hb hp
    refine .inr ⟨_,g,(x,b),fun F F' e=>by rw[e],fun F e=>by rw[e];rfl⟩
   ·exact .inl fun _ _=>rfl
  ·split
   ·rename_i x b hx hb hp
    refine .inr ⟨_,g,(x,b),fun F F' e=>by rw[e],fun F e=>by rw[e];rfl⟩
   ·exact .inl fun _ _=>rfl
 ·exact .inl fun _ _=>rfl
theorem O2{A:Nat→FT}{L:FT}(hA:To A L){h:Heap}{id:Nat}{f:FuncId}{vs:List AV}{e:bj}(he:ic Sg L h id f vs some=some e):sH fun m=>ic Sg (A m) h id f vs some=some e:=by
 rcases L0 (Sg:=Sg) h id f vs with k|⟨ff,g,x,k1,k2⟩
 ·exact .now fun m=>(k _ _).trans he
 ·cases hy:L ff g x with
  |none=>rw[k2 L hy]at he;cases he
  |some y=>exact(hA _ _ _ _ hy).imp fun m hm=>(k1 (A m) L (hm.trans hy.symm)).trans he
theorem D3{A:Nat→FT}{L:FT}(hA:To A L){id:Nat}{h:Heap}{s:List (Nat×AV)}{o:Oper}{e:bj}(he:cv P Eqs Sg L id h s o some=some e):sH fun m=>cv P Eqs Sg (A m) id h s o some=some e:=by
 obtain⟨dst,op,type,pos,after,guard⟩:=o
 cases op with
 |call c =>
  obtain⟨callee,args,argTypes⟩:=c
  cases callee with
  |value f =>
   simp only[cv]at he
   split at he
   ·rename_i f' cap hf
    refine(O2 hA he).imp fun m hm=>?_
    simp only[cv,hf]
    exact hm
   ·cases he
  |builtin bi=>cases bi<;>exact .now fun m=>he
  |invoke _ _=>exact .now fun m=>he
 |unOp u _ _=>cases u<;>exact .now fun m=>he
 |makeFunc fn _ _=>cases fn<;>exact .now fun m=>he
 |makeMap _ r=>cases r<;>exact .now fun m=>he
 |next _ b=>cases b<;>exact .now fun m=>he
 |_=>exact .now fun m=>he
theorem sH.all{p:Nat→Nat→Prop}:∀(n:Nat),(∀j,j<n→sH (p j))→sH fun m=>∀j,j<n→p j m
 |0,_=>.now fun m j hj=>absurd hj (Nat.not_lt_zero _)
 |n+1,h=>(sH.all n fun j hj=>h j (by omega)).and (h n (by omega)) fun m h1 h2 j hj=>by
  by_cases e:j=n
  ·subst e;exact h2
  ·exact h1 j (by omega)
theorem GF{h:Heap}{x:AV}{K:Nat→AV→Heap→Option R}{KL:AV→Heap→Option R}(hK:∀v h y,KL v h=some y→sH fun m=>K m v h=some y){r:R}(he:j9 h x KL=some r):sH fun m=>j9 h x (K m)=some r:=by
 unfold j9 at he ⊢
 split at he
 ·rename_i id
  split at he
  ·rename_i kk vk p hg
   try simp only[hg]
   cases hp:p.2 with
   |nil =>
    simp only[hp,List.isEmpty_nil,cond_true]at he ⊢
    exact hK _ _ _ he
   |cons c l =>
    simp only[hp,List.isEmpty_cons,cond_false]at he ⊢
    have h1:=mI he
    refine(sH.all _ fun j hj=>?_).imp fun m hm=>lK (by simp) hm
    have h2:=h1 j hj
    rw[List.getElem?_eq_getElem hj]at h2 ⊢
    simp only[Option.bind_some]at h2 ⊢
    exact hK _ _ _ h2
  ·cases he
 ·cases he
theorem L3{h:Heap}{x:AV}{want:Bool}{K:Nat→AV→Option R}{KL:AV→Option R}(hK:∀v y,KL v=some y→sH fun m=>K m v=some y){r:R}(he:sO h x want KL=some r):sH fun m=>sO h x want (K m)=some r:=by
 unfold sO at he ⊢
 split at he
 ·exact hK _ _ he
 ·rename_i xs hv
  cases qh:xs.isEmpty with
  |true =>
   simp only[qh,cond_true]at he ⊢
   have h1:=mI he
   exact(sH.all _ fun j hj=>hK _ _ (h1 j hj)).imp fun m hm=>lK (by decide) hm
  |false =>
   simp only[qh,cond_false]at he ⊢
   exact hK _ _ he
 ·cases he
theorem yw{A:Nat→FT}{L:FT}(hA:To A L){rid:Nat}{draw:Bool}{ops:Array Oper}{b:Array Nat}{K:Nat→St→Option R}{KL:St→Option R}(hK:ToK K KL) :
  ∀(l:List (Nat×Oper)) (st:St) (r:R),bc P Eqs Sg L rid draw ops b l st KL=some r→sH fun m=>bc P Eqs Sg (A m) rid draw ops b l st (K m)=some r
 |[],st,r,he=>hK st r (by simpa only[bc] using he)
 |(i,o)::l,st,r,he=>by
  have ih:=yw hA (rid:=rid) (draw:=draw) (ops:=ops) (b:=b) hK l
  have run:∀st:St,(match (if draw then none else np P (opId rid i) st o) with
    |some dE=>bc P Eqs Sg L rid draw ops b l dE KL
    |none=>match (if draw then none else sN o) with
    |some x=>j9 st.heap (ρ st.tmps x) fun v h=>bc P Eqs Sg L rid draw ops b l (({ st with heap:=h }:St).put o.dst v) KL
    |none=>match (if draw then none else isNil P o) with
    |some (x,want)=>sO st.heap (ρ st.tmps x) want fun v=>bc P Eqs Sg L rid draw ops b l (st.put o.dst v) KL
    |none=>if draw then cv P Eqs Sg L (opId rid i) (fS (ahead rid (b.getD i 0) st.heap) (fT ops b i st.tmps o)) st.tmps o fun e =>
     if(fL true rid ops b i (b.getD i 0) (fM (fT ops b i st.tmps o) (ahead rid (b.getD i 0) st.heap) e)&&lZ (fT ops b i st.tmps o) e)=true then
      bc P Eqs Sg L rid draw ops b l ({ st with heap:=match fM (fT ops b i st.tmps o) (ahead rid (b.getD i 0) st.heap) e with | .wr _ h=>h|e=>e.h st.heap }.put o.dst e.v) KL else none
     else cv P Eqs Sg L (opId rid i) st.heap st.tmps o fun e =>
     if fL false rid ops b i (2 ^ i-1) e then bc P Eqs Sg L rid draw ops b l ({ st with heap:=match e with | .wr _ h=>h|e=>e.h st.heap }.put o.dst e.v) KL else none)=some r →
    sH fun m=>(match (if draw then none else np P (opId rid i) st o) with
    |some dE=>bc P Eqs Sg (A m) rid draw ops b l dE (K m)
    |none=>match (if draw then none else sN o) with
    |some x=>j9 st.heap (ρ st.tmps x) fun v h=>bc P Eqs Sg (A m) rid draw ops b l (({ st with heap:=h }:St).put o.dst v) (K m)
    |none=>match (if draw then none else isNil P o) with
    |some (x,want)=>sO st.heap (ρ st.tmps x) want fun v=>bc P Eqs Sg (A m) rid draw ops b l (st.put o.dst v) (K m)
    |none=>if draw then cv P Eqs Sg (A m) (opId rid i) (fS (ahead rid (b.getD i 0) st.heap) (fT ops b i st.tmps o)) st.tmps o fun e =>
     if(fL true rid ops b i (b.getD i 0) (fM (fT ops b i st.tmps o) (ahead rid (b.getD i 0) st.heap) e)&&lZ (fT ops b i st.tmps o) e)=true then
      bc P Eqs Sg (A m) rid draw ops b l ({ st with heap:=match fM (fT ops b i st.tmps o) (ahead rid (b.getD i 0) st.heap) e with | .wr _ h=>h|e=>e.h st.heap }.put o.dst e.v) (K m) else none
     else cv P Eqs Sg (A m) (opId rid i) st.heap st.tmps o fun e =>
     if fL false rid ops b i (2 ^ i-1) e then bc P Eqs Sg (A m) rid draw ops b l ({ st with heap:=match e with | .wr _ h=>h|e=>e.h st.heap }.put o.dst e.v) (K m) else none)=some r:=by
   intro st h
   split at h
   ·rename_i dE mH
    try simp only[mH]
    exact ih _ r h
   rename_i mH
   split at h
   ·rename_i x Ba
    try simp only[mH,Ba]
    exact GF (fun v h y hy=>ih _ y hy) h
   rename_i Ba
   split at h
   ·rename_i x want Ue
    try simp only[mH,Ba,Ue]
    exact L3 (fun v y hy=>ih _ y hy) h
   rename_i Ue
   try simp only[mH,Ba,Ue]
   cases draw with
   |true =>
    simp only[if_true]at h ⊢
    rw[ki]at h
    obtain⟨e,h1,h2⟩:=Option.bind_eq_some_iff.1 h
    by_cases hc:(fL true rid ops b i (b.getD i 0) (fM (fT ops b i st.tmps o) (ahead rid (b.getD i 0) st.heap) e)&&lZ (fT ops b i st.tmps o) e)=true
    ·rw[if_pos hc]at h2
     refine(D3 hA h1).and (ih _ r h2) fun m h3 h4=>?_
     rw[ki,h3,Option.bind_some,if_pos hc]
     exact h4
    ·rw[if_neg hc]at h2;cases h2
   |false =>
    simp only[Bool.false_eq_true,if_false]at h ⊢
    rw[ki]at h
    obtain⟨e,h1,h2⟩:=Option.bind_eq_some_iff.1 h
    by_cases hc:fL false rid ops b i (2 ^ i-1) e=true
    ·rw[if_pos hc]at h2
     refine(D3 hA h1).and (ih _ r h2) fun m h3 h4=>?_
     rw[ki,h3,Option.bind_some,if_pos hc]
     exact h4
    ·rw[if_neg hc]at h2;cases h2
  simp only[bc]at he ⊢
  split at he
  ·rename_i hg
   try simp only[hg]
   exact run _ he
  ·rename_i j want hg
   try simp only[hg]
   split at he
   ·cases he
   ·rename_i d hd
    try simp only[hd]
    split at he
    ·rename_i t ht
     try simp only[ht]
     cases t<;>cases want<;>simp only[cond_true,cond_false,if_true,if_false,Bool.false_eq_true]at he ⊢<;>first|exact run _ he|exact ih _ r he
    ·rename_i ht
     try simp only[ht]
     exact ih _ r he
    ·cases he
theorem Az{A:Nat→FT}{L:FT}(hA:To A L){n rid:Nat}{ops:Array Oper}{draw:Bool}{K:Nat→St→Option R}{KL:St→Option R}(hK:ToK K KL){st:St}{r:R}
  (he:gr P Eqs Sg L n rid ops draw st KL=some r):sH fun m=>gr P Eqs Sg (A m) n rid ops draw st (K m)=some r:=by
 unfold gr at he ⊢
 by_cases hc:((ops.all fun o=>gq n o)&&(!draw || (sK ops (if draw then Region.before ops else #[])&&(xp ops (if draw then Region.before ops else #[])&&bR (ops.toList.filterMap (·.dst)))))&&decide (ops.size≤128))=true
 ·dsimp only at he ⊢
  rw[if_pos hc]at he
  refine(yw hA hK _ _ r he).imp fun m hm=>?_
  rw[if_pos hc]
  exact hm
 ·dsimp only at he
  rw[if_neg hc]at he;cases he
theorem fF{A:Nat→FT}{L:FT}(hA:To A L){n:Nat}{ann:Nat→Option Shape}{J:Nat→(sh:Shape)→List Item→sh.T→Option R}{JL:(sh:Shape)→List Item→sh.T→Option R}(hJ:ToJ J JL){ret:St→Option R} :
  ∀(fu:Nat) (items:List Item) (st:St) (r:R),au P Eqs Sg L n ann JL ret fu items st=some r→sH fun m=>au P Eqs Sg (A m) n ann (J m) ret fu items st=some r
 |0,items,st,r,he=>by cases items<;>simp only[au]at he<;>cases he
 |fu+1,[],st,r,he=>.now fun m=>by simpa only[au] using he
 |fu+1,it::JN,st,r,he=>by
  have ih:=fF hA (n:=n) (ann:=ann) hJ (ret:=ret) fu
  cases it with
  |inBlock id=>simp only[au]at he ⊢;exact ih _ _ _ he
  |inScope c=>simp only[au]at he ⊢;exact ih _ _ _ he
  |inLoop c =>
   simp only[au]at he ⊢
   split at he
   ·cases he
   ·rename_i sh hsh
    try simp only[hsh]
    split at he
    ·rename_i x hx
     try simp only[hx]
     exact hJ _ _ _ _ he
    ·cases he
  |code c =>
   cases c with
   |cond c x y =>
    simp only[au]at he ⊢
    split at he
    ·rename_i t ht
     try simp only[ht]
     cases t<;>simp only[cond_true,cond_false]at he ⊢<;>exact ih _ _ _ he
    ·cases he
   |exit id =>
    simp only[au]at he ⊢
    split at he
    ·rename_i k' hk
     try simp only[hk]
     exact ih _ _ _ he
    ·cases he
   |ret=>exact .now fun m=>by simpa only[au] using he
   |region id ops draw =>
    simp only[au]at he ⊢
    exact Az hA (K:=fun m dE=>au P Eqs Sg (A m) n ann (J m) ret fu JN dE) (fun st y h=>ih JN st y h) he
   |skip=>simp only[au]at he ⊢;exact ih _ _ _ he
   |label l=>simp only[au]at he ⊢;exact ih _ _ _ he
   |seq x y=>simp only[au]at he ⊢;exact ih _ _ _ he
   |block id c=>simp only[au]at he ⊢;exact ih _ _ _ he
   |scope c=>simp only[au]at he ⊢;exact ih _ _ _ he
   |loop c=>simp only[au]at he ⊢;exact ih _ _ _ he
   |_=>simp only[au]at he;cases he
  |_=>simp only[au]at he;cases he
section
variable {An:FuncId→Nat→Option Shape} {G:(f:FuncId)→(g:aL)→Option (g.A→Option g.B)}
def RJ(F F':FT):Prop:=∀f g x y,F f g x=some y→F' f g x=some y
theorem RJ.to{F F':FT}(h:RJ F F'):To (fun _=>F') F:=fun f g x y hy=>.now fun _=>h f g x y hy
theorem sH.get{p:Prop}(h:sH fun _=>p):p:=by obtain⟨m,hm⟩:=h;exact hm m (Nat.le_refl _)
theorem mJ{F F':FT}(h:RJ F F'){f:FuncId}{g:aL}{fn:Func}:∀(n n':Nat) (sh:Shape) (k:List Item) (x:sh.T) (y:g.B),n≤n'→lu P Eqs Sg An F f g fn n sh k x=some y→lu P Eqs Sg An F' f g fn n' sh k x=some y
 |0,_,_,_,_,_,_,hx=>by simp only[lu]at hx;cases hx
 |n+1,0,_,_,_,_,hn,_=>by omega
 |n+1,n'+1,sh,k,x,y,hn,hx=>by
  cases k with
  |nil=>simp only[lu]at hx;cases hx
  |cons it k =>
   cases it with
   |inLoop c =>
    simp only[lu]at hx ⊢
    exact(fF h.to (J:=fun _=>lu P Eqs Sg An F' f g fn n') (JL:=lu P Eqs Sg An F f g fn n) (fun sh k x y hy=>.now fun _=>mJ h n n' sh k x y (by omega) hy) _ _ _ _ hx).get
   |_=>simp only[lu]at hx;cases hx
theorem JO{F F':FT}(h:RJ F F'){f:FuncId}{g:aL}{n n':Nat}{x:g.A}{y:g.B}(hn:n≤n')(hx:FY P Eqs Sg An F f g n x=some y):FY P Eqs Sg An F' f g n' x=some y:=by
 unfold FY at hx ⊢
 split at hx
 ·cases hx
 ·rename_i fn c hb
  try simp only[hb]
  split at hx
  ·rename_i hc
   simp only[if_pos hc]
   exact(fF h.to (J:=fun _=>lu P Eqs Sg An F' f g fn n') (JL:=lu P Eqs Sg An F f g fn n) (fun sh k x y hy=>.now fun _=>mJ h n n' sh k x y hn hy) _ _ _ _ hx).get
  ·cases hx
theorem wP:∀m,RJ (Fn P Eqs Sg An G m) (Fn P Eqs Sg An G (m+1))
 |0,f,g,x,y,hx=>by
  simp only[Fn]at hx ⊢
  split at hx
  ·rename_i u hu;(try simp only[hu]);exact hx
  ·cases hx
 |m+1,f,g,x,y,hx=>by
  rw[Fn]at hx ⊢
  split at hx
  ·rename_i u hu;(try simp only[hu]);exact hx
  ·rename_i hu
   try simp only[hu]
   exact JO (wP m) (Nat.le_succ m) hx
theorem wQ{m m':Nat}(h:m≤m'):RJ (Fn P Eqs Sg An G m) (Fn P Eqs Sg An G m'):=by
 induction h with
 |refl=>exact fun _ _ _ _ h=>h
 |step _ ih=>exact fun f g x y hx=>wP _ f g x y (ih f g x y hx)
variable (P Eqs Sg An G) in
open Classical in
noncomputable def Fix:FT:=fun f g x=>if h:∃m y,Fn P Eqs Sg An G m f g x=some y then some (Classical.choose (Classical.choose_spec h)) else none
theorem CA:To (Fn P Eqs Sg An G) (Fix P Eqs Sg An G):=fun f g x y hy=>by
 unfold Fix at hy
 split at hy
 ·rename_i h
  cases hy
  exact⟨Classical.choose h,fun m' hm=>wQ hm _ _ _ _ (Classical.choose_spec (Classical.choose_spec h))⟩
 ·cases hy
theorem L4{m:Nat}{f:FuncId}{g:aL}{x:g.A}{y:g.B}(h:Fn P Eqs Sg An G m f g x=some y):Fix P Eqs Sg An G f g x=some y:=by
 have he:∃m y,Fn P Eqs Sg An G m f g x=some y:=⟨m,y,h⟩
 cases hy:Fix P Eqs Sg An G f g x with
 |none=>unfold Fix at hy;rw[dif_pos he]at hy;cases hy
 |some y' =>
  obtain⟨m1,h1⟩:=CA f g x y' hy
  have h2:=h1 (max m m1) (by omega)
  have h3:=wQ (show m≤max m m1 by omega) f g x y h
  rw[h2]at h3
  exact h3
variable (P Eqs Sg An G) in
open Classical in
noncomputable def Lp(f:FuncId)(g:aL)(fn:Func)(sh:Shape)(k:List Item)(x:sh.T):Option g.B :=
 if h:∃m y,lu P Eqs Sg An (Fn P Eqs Sg An G m) f g fn m sh k x=some y then some (Classical.choose (Classical.choose_spec h)) else none
theorem L5{f:FuncId}{g:aL}{fn:Func}:ToJ (fun m=>lu P Eqs Sg An (Fn P Eqs Sg An G m) f g fn m) (Lp P Eqs Sg An G f g fn):=fun sh k x y hy=>by
 unfold Lp at hy
 split at hy
 ·rename_i h
  cases hy
  exact⟨Classical.choose h,fun m' hm=>mJ (wQ hm) _ _ _ _ _ _ hm (Classical.choose_spec (Classical.choose_spec h))⟩
 ·cases hy
theorem Um{m:Nat}{f:FuncId}{g:aL}{fn:Func}{sh:Shape}{k:List Item}{x:sh.T}{y:g.B}(h:lu P Eqs Sg An (Fn P Eqs Sg An G m) f g fn m sh k x=some y):Lp P Eqs Sg An G f g fn sh k x=some y:=by
 have he:∃m y,lu P Eqs Sg An (Fn P Eqs Sg An G m) f g fn m sh k x=some y:=⟨m,y,h⟩
 cases hy:Lp P Eqs Sg An G f g fn sh k x with
 |none=>unfold Lp at hy;rw[dif_pos he]at hy;cases hy
 |some y' =>
  obtain⟨m1,h1⟩:=L5 sh k x y' hy
  have h2:=h1 (max m m1) (by omega)
  have h3:=mJ (wQ (show m≤max m m1 by omega)) m (max m m1) sh k x y (by omega) h
  exact h2.symm.trans h3
theorem H5{f:FuncId}{g:aL}{x:g.A}{y:g.B}{fn:Func}{c:Code}(hG:G f g=none)(hb:body P (f%1000)=some (fn,c))(hc:(decide (g.ps.length≤fn.ntmps)&&decide (g.bs.length≤8))=true)
  (h:au P Eqs Sg (Fix P Eqs Sg An G) fn.ntmps (An f) (Lp P Eqs Sg An G f g fn) (o8 P g fn) fuel [.code c] (entry g x)=some y):Fix P Eqs Sg An G f g x=some y:=by
 obtain⟨m,hm⟩:=fF (CA (P:=P) (Eqs:=Eqs) (Sg:=Sg) (An:=An) (G:=G)) (L5 (f:=f) (g:=g) (fn:=fn)) _ _ _ _ h
 refine L4 (m:=m+1) ?_
 simp only[Fn,hG]
 unfold FY
 simp only[hb,if_pos hc]
 exact hm m (Nat.le_refl _)
theorem Bj{f:FuncId}{g:aL}{x:g.A}{y:g.B}{u:g.A→Option g.B}(hG:G f g=some u)(h:u x=some y):Fix P Eqs Sg An G f g x=some y:=by
 refine L4 (m:=0) ?_
 simp only[Fn,hG]
 exact h
theorem L6{f:FuncId}{g:aL}{fn:Func}{sh:Shape}{c:Code}{k:List Item}{x:sh.T}{y:g.B}
  (h:au P Eqs Sg (Fix P Eqs Sg An G) fn.ntmps (An f) (Lp P Eqs Sg An G f g fn) (o8 P g fn) fuel (.code c::.inLoop c::k) (ai sh x)=some y):Lp P Eqs Sg An G f g fn sh (.inLoop c::k) x=some y:=by
 obtain⟨m,hm⟩:=fF (CA (P:=P) (Eqs:=Eqs) (Sg:=Sg) (An:=An) (G:=G)) (L5 (f:=f) (g:=g) (fn:=fn)) _ _ _ _ h
 refine Um (m:=m+1) ?_
 simp only[lu]
 refine(fF (L:=Fn P Eqs Sg An G m) (RJ.to (wP m)) (J:=fun _=>lu P Eqs Sg An (Fn P Eqs Sg An G (m+1)) f g fn m) (JL:=lu P Eqs Sg An (Fn P Eqs Sg An G m) f g fn m) (fun sh k x y hy=>.now fun _=>mJ (wP m) m m sh k x y (Nat.le_refl _) hy) _ _ _ _ (hm m (Nat.le_refl _))).get
theorem wR(hX:∀f g u,Sg f=some g→g.x=some u→gE P (f%1000) u)(Ag:∀t k,Eqs t=some k→kD P t k)(Jx:∀f g,Sg f=some g→im P (f%1000))(hm:P.follows .mixedOrders=true)
  (hG:∀f g u x y,Sg f=some g→G f g=some u→u x=some y→A5 P f g x y) {f:FuncId} {g:aL} {x:g.A} {y:g.B} (hs:Sg f=some g) (h:Fix P Eqs Sg An G f g x=some y):A5 P f g x y:=by
 obtain⟨m,OL⟩:=CA f g x y h
 exact D2 hX Ag Jx hm hG m f g x y hs (OL m (Nat.le_refl _))
end
end Go.Vs
namespace Go.Vs
open Go.Proofs
abbrev ab:=((Int×Int)×Int)
abbrev ID:=(Int×Int)
abbrev aj:=(ID×((List ab)×(ByteArray×Int)))
abbrev an:=(ID×(ByteArray×Int))
abbrev ak:=((List aj)×(List an))
abbrev aG:=(ab×ab)
abbrev StateT:=(ak×(List aG))
abbrev tq:=(ID×ab)
abbrev aO:=(Int×(ID×(ID×(ID×(tq×(tq×(Bool×(ByteArray×Int))))))))
abbrev az:=((List aj)×((List an)×((List aG)×Unit)))
abbrev k13:K:=(.pair .str (.int .u64))
abbrev nh:K:=(.pair (.int .i64) (.int .i64))
abbrev k68:K:=(.pair .str (.pair (.int .i64) .bool))
abbrev b7:K:=(.pair nh (.int .i64))
abbrev k7:K:=(.pair (.int .i64) (.pair (.int .i64) (.pair .bool (.int .u8))))
abbrev iJ:K:=(.pair nh (.pair .str (.int .i64)))
abbrev Tj:K:=(.pair nh b7)
abbrev dW:K:=(.pair b7 b7)
abbrev fG:K:=(.pair nh (.pair (.sl b7) (.pair .str (.int .i64))))
abbrev oC:K:=(.pair (.sl fG) (.sl iJ))
abbrev wS:K:=(.pair oC (.sl dW))
abbrev Bk:K:=(.pair (.int .i64) (.pair nh (.pair nh (.pair nh (.pair Tj (.pair Tj (.pair .bool (.pair .str (.int .i64)))))))))
abbrev pI:K:=(.one (.sl Bk))
def nP(xs:List aj)(ys:List an):Bool:=decide (xs.length≤50000000)&&(decide (ys.length≤50000000)&&xs.all fun v=>decide (v.2.1.length≤50000000))
def CB(h:Heap)(id:Nat):List AV→Option (Bool×bj)
 |[.agg [.bp a,.bp b]]=>match dt h (.row 52 fG) (.bp a),dt h (.row 118 iJ) (.bp b) with
  |some xs,some ys=>if a=b then none else some (nP xs ys,.new (.agg [.bp (id+128),.bp (id+129)]) [(id+128,.own (.row 52 fG) xs),(id+129,.own (.row 118 iJ) ys)])
  |_,_=>none
 |_=>none
def GG:aL:={ ps:=[.val wS,.val pI],bs:=[],rs:=[.val wS,.val (.int .i64)] }
def AA:aL:={ ps:=[.val wS,.val pI],bs:=[],rs:=[.val wS] }
def L7:aL:={ ps:=[.val Bk],bs:=[],rs:=[.val (.int .i64)] }
def D4:aL:={ ps:=[.val wS,.val (.sl Bk)],bs:=[],rs:=[.val wS,.val (.int .i64)] }
def D5:aL:={ ps:=[.val pI],bs:=[],rs:=[.val (.int .i64)] }
def CC:aL:={ ps:=[.val oC],bs:=[],rs:=[.agg [.own (.row 52 fG),.own (.row 118 iJ)]] }
def D6:aL:={ ps:=[.val (.sl dW)],bs:=[],rs:=[.own (.row 54 dW)] }
def L8:aL:={ ps:=[.val Bk],bs:=[],rs:=[.val Bk,.val (.int .i64)] }
def CD:aL:={ ps:=[.ref,.val Bk],bs:=[.box 155 [.own (.row 52 fG),.own (.row 118 iJ),.val (.sl dW)]],rs:=[.val (.int .i64)] }
def JP:aL:={ ps:=[.val (.sl fG)],bs:=[],rs:=[.own (.row 52 fG)] }
def JQ:aL:={ ps:=[.val (.sl iJ)],bs:=[],rs:=[.own (.row 118 iJ)] }
def wi:aL:={ ps:=[.val (.sl b7)],bs:=[],rs:=[.own (.row 33 b7)] }
def pJ:aL:={ ps:=[.val nh],bs:=[],rs:=[.val .bool] }
def AB:aL:={ ps:=[.val Tj],bs:=[],rs:=[.val .bool] }
def uL:aL:={ ps:=[.val .str],bs:=[],rs:=[.val .bool] }
def D7:aL:={ ps:=[.val (.int .i64)],bs:=[],rs:=[.val .bool] }
def D8:aL:={ ps:=[.ref,.val fG],bs:=[.box 155 [.own (.row 52 fG),.own (.row 118 iJ),.val (.sl dW)]],rs:=[.val (.int .i64)] }
def L9:aL:={ ps:=[.ref,.val Bk],bs:=[.box 155 [.own (.row 52 fG),.own (.row 118 iJ),.val (.sl dW)]],rs:=[.val (.int .i64)] }
def nQ:aL:={ ps:=[.ref,.val Bk],bs:=[.box 155 [.own (.row 52 fG),.own (.row 118 iJ),.val (.sl dW)]],rs:=[.val (.int .i64)] }
def yx:aL:={ ps:=[.ref,.val Bk],bs:=[.box 155 [.own (.row 52 fG),.own (.row 118 iJ),.val (.sl dW)]],rs:=[.val (.int .i64)] }
def wj:aL:={ ps:=[.ref,.val Bk],bs:=[.box 155 [.own (.row 52 fG),.own (.row 118 iJ),.val (.sl dW)]],rs:=[.val (.int .i64)] }
def pK:aL:={ ps:=[.ref,.val Bk],bs:=[.box 155 [.own (.row 52 fG),.own (.row 118 iJ),.val (.sl dW)]],rs:=[.val (.int .i64)] }
def Ma:aL:={ ps:=[.ref,.val Bk],bs:=[.box 155 [.own (.row 52 fG),.own (.row 118 iJ),.val (.sl dW)]],rs:=[.val (.int .i64)] }
def D9:aL:={ ps:=[.val b7],bs:=[],rs:=[.val .bool] }
def oD:aL:={ ps:=[.ref,.val nh],bs:=[.box 155 [.own (.row 52 fG),.own (.row 118 iJ),.val (.sl dW)]],rs:=[.val (.int .i64),.val .bool] }
def Qv:aL:={ ps:=[],bs:=[],rs:=[],x:=some (K2 52 fG) }
def Qw:aL:={ ps:=[],bs:=[],rs:=[],x:=some (Ot 52 fG) }
def vS:aL:={ ps:=[.ref,.val nh],bs:=[.box 155 [.own (.row 52 fG),.own (.row 118 iJ),.val (.sl dW)]],rs:=[.val (.int .i64)] }
def yy:aL:={ ps:=[.val nh],bs:=[],rs:=[.val b7,.val b7] }
def Ea:aL:={ ps:=[.val wS,.val Tj],bs:=[],rs:=[.val Tj,.val (.int .i64)] }
def yz:aL:={ ps:=[.val (.sl b7),.val b7,.val b7],bs:=[],rs:=[.own (.row 33 b7)] }
def yC:aL:={ ps:=[.val oC],bs:=[],rs:=[.val .bool] }
def lM:aL:={ ps:=[.ref,.val nh],bs:=[.box 155 [.own (.row 52 fG),.own (.row 118 iJ),.val (.sl dW)]],rs:=[.val (.int .i64),.val .bool] }
def yD:aL:={ ps:=[.ref,.val b7,.val b7],bs:=[.box 155 [.own (.row 52 fG),.own (.row 118 iJ),.val (.sl dW)]],rs:=[] }
def yE:aL:={ ps:=[.ref,.val b7],bs:=[.box 155 [.own (.row 52 fG),.own (.row 118 iJ),.val (.sl dW)]],rs:=[.val b7] }
def kR:aL:={ ps:=[.ref,.val b7],bs:=[.box 155 [.own (.row 52 fG),.own (.row 118 iJ),.val (.sl dW)]],rs:=[.dJ 0 [(0,5,0)]] }
def Eb:aL:={ ps:=[.val (.sl b7),.val b7],bs:=[],rs:=[.own (.row 33 b7)] }
def Qx:aL:={ ps:=[],bs:=[],rs:=[],x:=some (Ot 118 iJ) }
def rp:aL:={ ps:=[.val (.sl b7),.val b7,.val b7],bs:=[],rs:=[.own (.row 33 b7)] }
def mK:aL:={ ps:=[.val b7],bs:=[],rs:=[.val b7] }
def pM:aL:={ ps:=[.val (.sl b7)],bs:=[],rs:=[.own (.row 33 b7)] }
def Ec:aL:={ ps:=[.ref,.val Bk],bs:=[.box 155 [.own (.row 52 fG),.own (.row 118 iJ),.val (.sl dW)]],rs:=[.dJ 0 [(0,5,3),(1,4,2)],.dJ 0 [(0,5,4),(1,4,3)]] }
def Bl:aL:={ ps:=[.val fG,.val nh],bs:=[],rs:=[.val (.int .i64)] }
def yF:aL:={ ps:=[.val nh,.val nh],bs:=[],rs:=[.val (.int .i64)] }
def Qy:aL:={ ps:=[],bs:=[],rs:=[],x:=some (K2 118 iJ) }
def Ed:aL:={ ps:=[.val oC,.val nh],bs:=[],rs:=[.val fG,.val .bool] }
def vT:aL:={ ps:=[.val wS,.val b7],bs:=[],rs:=[.val b7] }
def tu:aL:={ ps:=[.val (.sl b7),.val b7],bs:=[],rs:=[.val .bool] }
def kS:aL:={ ps:=[.val (.sl b7),.val b7],bs:=[],rs:=[.val (.int .i64)] }
def mL:aL:={ ps:=[.val (.sl (.sl b7))],bs:=[],rs:=[.own (.row 33 b7)] }
def Ee:aL:={ ps:=[.val oC],bs:=[],rs:=[.val (.int .i64)] }
def Bm:aL:={ ps:=[.val iJ,.val nh],bs:=[],rs:=[.val (.int .i64)] }
def Ef:aL:={ ps:=[.val (.sl dW),.val dW],bs:=[],rs:=[.own (.row 54 dW)] }
def Bn:aL:={ ps:=[.val (.sl b7),.val b7],bs:=[],rs:=[.val b7,.val .bool] }
def Bo:aL:={ ps:=[.val b7,.val b7],bs:=[],rs:=[.val (.int .i64)] }
def mM:aL:={ ps:=[.val (.sl (.sl b7))],bs:=[],rs:=[.own (.row 33 b7)] }
def tv:aL:={ ps:=[.val (.sl (.int .i64))],bs:=[],rs:=[.val (.int .i64)] }
def yG:aL:={ ps:=[.val (.int .i64),.val (.int .i64)],bs:=[],rs:=[.val (.int .i64)] }
def Eg:aL:={ ps:=[.val fG],bs:=[],rs:=[.val nh] }
def tw:aL:={ ps:=[.val oC,.val b7],bs:=[],rs:=[.val nh,.val .bool] }
def Eh:aL:={ ps:=[.val (.sl dW),.val b7],bs:=[],rs:=[.val b7,.val .bool] }
def Ei:aL:={ ps:=[.val oC],bs:=[],rs:=[.val (.int .i64),.val (.int .i64),.val (.int .i64),.val (.int .i64)] }
def Bp:aL:={ ps:=[.val dW,.val b7],bs:=[],rs:=[.val (.int .i64)] }
def Qz:aL:={ ps:=[],bs:=[],rs:=[],x:=some (K2 54 dW) }
def yH:aL:={ ps:=[.val (.sl b7),.val b7,.val (.int .i64)],bs:=[],rs:=[.val b7,.val .bool] }
def QA:aL:={ ps:=[],bs:=[],rs:=[],x:=some (K3 33 b7) }
def yI:aL:={ ps:=[.val (.int .i64)],bs:=[],rs:=[.val .bool] }
def Ej:aL:={ ps:=[.val dW,.ref],bs:=[.box 33 [.val (.int .i64),.val (.int .i64),.val (.int .i64)]],rs:=[.val .bool] }
def Ek:aL:={ ps:=[.val fG],bs:=[],rs:=[.val .bool] }
def vU:aL:={ ps:=[.val oC],bs:=[],rs:=[.own (.row 50 (.sl b7))] }
def vV:aL:={ ps:=[.val oC],bs:=[],rs:=[.val (.int .i64)] }
def tx:aL:={ ps:=[.val oC],bs:=[],rs:=[.own (.row 33 b7)] }
def QB:aL:={ ps:=[.val oC],bs:=[],rs:=[.own (.row 28 (.sl nh))] }
def Bq:aL:={ ps:=[.val oC,.val b7],bs:=[],rs:=[.val b7,.val .bool] }
def gh:aL:={ ps:=[.val oC],bs:=[],rs:=[.own (.row 3 (.int .i64))] }
def vW:aL:={ ps:=[.val oC,.val b7],bs:=[],rs:=[.val b7,.val .bool] }
def El:aL:={ ps:=[.own,.val (.int .i64),.val (.int .i64)],bs:=[.own (.row 3 (.int .i64))],rs:=[] }
def pN:aL:={ ps:=[.own,.val (.int .i64)],bs:=[.own (.row 3 (.int .i64))],rs:=[.val (.int .i64)] }
def Em:aL:={ ps:=[.val (.sl b7),.val b7],bs:=[],rs:=[.val b7,.val .bool] }
def iv:aL:={ ps:=[.val (.sl fG),.val nh,.B3 207 0],bs:=[],rs:=[.val (.int .i64),.val .bool] }
def iw:aL:={ ps:=[.val (.sl iJ),.val nh,.B3 214 0],bs:=[],rs:=[.val (.int .i64),.val .bool] }
def jJ:aL:={ ps:=[.val (.sl b7),.B3 195 0],bs:=[],rs:=[.val b7] }
def jK:aL:={ ps:=[.val (.sl fG),.B3 109 0,.val nh],bs:=[],rs:=[.val fG,.val .bool] }
def iy:aL:={ ps:=[.val (.sl dW),.val b7,.B3 232 0],bs:=[],rs:=[.val (.int .i64),.val .bool] }
def iz:aL:={ ps:=[.val (.sl dW),.B3 245 1],bs:=[.box 33 [.val b7]],rs:=[.val (.int .i64)] }
def jL:aL:={ ps:=[.val (.sl fG),.B3 239 0],bs:=[],rs:=[.val (.int .i64)] }
def En:aL:={ ps:=[],bs:=[],rs:=[],x:=some CB }
def Mb:aL:={ ps:=[],bs:=[],rs:=[] }
abbrev k98:K:=(.pair pI nh)
abbrev XJ:K:=(.pair wS (.pair (.int .i64) (.sl pI)))
abbrev abK:=(StateT×(Int×((List (List aO))×Unit)))
def adh(h:Heap)(id:Nat):List AV→Option (Bool×bj)
 |[]=>some (true,.new (.ref (id+128) 0 0 0) [(id+128,.box 100 (enc XJ (mu XJ)))])
 |_=>none
def abL(h:Heap)(id:Nat):List AV→Option (Bool×bj)
 |[.ref i 0 0 0]=>match AM h i 100 with
  |some cs=>match de XJ cs with
   |some x=>some (true,.new (.ref (id+128) 0 0 0) [(id+128,.box 100 (enc XJ x))])
   |none=>none
  |none=>none
 |_=>none
def iM:aL:={ ps:=[.val (.sl pI)],bs:=[],rs:=[.val .bool] }
def Eo:aL:={ ps:=[],bs:=[],rs:=[.val .bool] }
def rq:aL:={ ps:=[.val (.sl pI)],bs:=[],rs:=[.val (.sl pI)] }
def tz:aL:={ ps:=[.val pI],bs:=[],rs:=[.own (.row 31 nh)] }
def yJ:aL:={ ps:=[.val (.int .i64)],bs:=[],rs:=[.val pI] }
def Ep:aL:={ ps:=[.val wS,.val pI],bs:=[],rs:=[] }
def Er:aL:={ ps:=[.val wS,.val pI,.ref],bs:=[.box 46 [.own (.row 4 .bool)]],rs:=[] }
def kT:aL:={ ps:=[.val wS,.own],bs:=[.own (.row 27 pI)],rs:=[.val wS] }
def kU:aL:={ ps:=[.val wS,.own],bs:=[.own (.row 27 pI)],rs:=[.own (.row 4 .bool)] }
def jM:aL:={ ps:=[.val wS,.own,.B3 61 0],bs:=[.own (.row 27 pI)],rs:=[.val wS] }
def jN:aL:={ ps:=[.val wS,.own,.B3 62 1],bs:=[.own (.row 27 pI),.box 46 [.own (.row 4 .bool)]],rs:=[.val wS] }
def XK:List (Nat×aL):=[(63,GG),(102,AA),(104,L7),(103,D4),(66,D5),(96,CC),(97,D6),(132,L8),(131,CD),(127,JP),(128,JQ),(110,wi),(159,pJ),(160,AB),(161,uL),(162,D7),(152,D8),(153,L9),(154,nQ),(155,yx),(156,wj),(157,pK),(158,Ma),(190,D9),(175,oD),(176,Qv),(177,Qw),(178,vS),(179,yy),(180,Ea),(181,yz),(172,yC),(182,lM),(183,yD),(184,yE),(185,kR),(141,Eb),(186,Qx),(187,rp),(188,mK),(169,pM),(189,Ec),(207,Bl),(208,yF),(211,Qy),(74,Ed),(212,vT),(166,tu),(168,kS),(170,mL),(204,Ee),(214,Bm),(215,Ef),(140,Bn),(195,Bo),(196,mM),(218,tv),(219,yG),(109,Eg),(139,tw),(230,Eh),(226,Ei),(232,Bp),(233,Qz),(167,yH),(220,QA),(235,yI),(245,Ej),(239,Ek),(240,vU),(241,vV),(249,tx),(251,QB),(255,Bq),(256,gh),(258,vW),(259,El),(260,pN),(261,Em),(208206,iv),(215213,iw),(196194,jJ),(110108,jK),(233231,iy),(246244,iz),(240238,jL),(500096,En),(900025,Mb),(3,iM),(15,Eo),(16,rq),(17,tz),(59,yJ),(61,Ep),(62,Er),(500018,kT),(500019,kU),(562060,jM),(563060,jN)]
def Sg(f:FuncId):Option aL:=(XK.find? (fun p=>p.1==f)).map (fun p=>p.2)
def eqs:List (Nat×K):=[(31,nh),(33,b7),(35,Tj),(37,Bk),(118,iJ),(54,dW)]
def Eqs(t:TypeId):Option K:=(eqs.find? (fun p=>p.1==t)).map (fun p=>p.2)
def yK:Shape:=⟨[(18,.sl (.pair (.int .i64) (.pair (.pair (.int .i64) (.int .i64)) (.pair (.pair (.int .i64) (.int .i64)) (.pair (.pair (.int .i64) (.int .i64)) (.pair (.pair (.pair (.int .i64) (.int .i64)) (.pair (.pair (.int .i64) (.int .i64)) (.int .i64))) (.pair (.pair (.pair (.int .i64) (.int .i64)) (.pair (.pair (.int .i64) (.int .i64)) (.int .i64))) (.pair .bool (.pair .str (.int .i64)))))))))),(19,.int .i64),(20,.int .i64)],[(.slot 4,20000,.box 44 [.own (.row 52 fG),.own (.row 118 iJ),.own (.row 54 dW)]),(.slot 6,20001,.box 155 [.own (.row 52 fG),.own (.row 118 iJ),.val (.sl dW)])],[],[]⟩
def yL:Shape:=⟨[(17,.sl (.pair (.int .i64) (.pair (.pair (.int .i64) (.int .i64)) (.pair (.pair (.int .i64) (.int .i64)) (.pair (.pair (.int .i64) (.int .i64)) (.pair (.pair (.pair (.int .i64) (.int .i64)) (.pair (.pair (.int .i64) (.int .i64)) (.int .i64))) (.pair (.pair (.pair (.int .i64) (.int .i64)) (.pair (.pair (.int .i64) (.int .i64)) (.int .i64))) (.pair .bool (.pair .str (.int .i64)))))))))),(18,.int .i64),(19,.int .i64)],[],[],[]⟩
def yM:Shape:=⟨[(14,.int .i64),(15,.int .i64)],[(.slot 2,20000,.box 41 [.own (.row 52 fG),.own (.row 118 iJ)]),(.slot 3,20001,.box 41 [.own (.row 52 fG),.own (.row 118 iJ)])],[],[]⟩
def uM:Shape:=⟨[(0,.str)],[],[(6,31000,.mr)],[]⟩
def kV:Shape:=⟨[(48,.int .i64),(49,.int .i64)],[(.slot 0,1000,.box 155 [.own (.row 52 fG),.own (.row 118 iJ),.val (.sl dW)]),(.slot 5,20001,.box 44 [.val wS]),(.slot 7,20002,.box 33 [.val b7])],[(9,31000,(.row 33 (.pair (.pair (.int .i64) (.int .i64)) (.int .i64)))),(47,31001,(.row 35 (.pair (.pair (.int .i64) (.int .i64)) (.pair (.pair (.int .i64) (.int .i64)) (.int .i64)))))],[]⟩
def CE:Shape:=⟨[(5,.int .i64),(32,.int .i64),(33,.int .i64)],[(.slot 0,1000,.box 155 [.own (.row 52 fG),.own (.row 118 iJ),.val (.sl dW)]),(.slot 7,20001,.box 33 [.val b7]),(.slot 8,20002,.box 33 [.val b7])],[(31,31000,(.row 33 (.pair (.pair (.int .i64) (.int .i64)) (.int .i64))))],[]⟩
def uN:Shape:=⟨[(5,.int .i64),(47,.int .i64),(48,.int .i64)],[(.slot 0,1000,.box 155 [.own (.row 52 fG),.own (.row 118 iJ),.val (.sl dW)])],[(46,31000,(.row 33 (.pair (.pair (.int .i64) (.int .i64)) (.int .i64))))],[]⟩
def mg:Shape:=⟨[(113,.int .i64)],[(.slot 0,1000,.box 155 [.own (.row 52 fG),.own (.row 118 iJ),.val (.sl dW)]),(.slot 8,20001,.box 33 [.val b7]),(.slot 9,20002,.box 33 [.val b7]),(.slot 10,20003,.box 33 [.val b7])],[],[]⟩
def wT:Shape:=⟨[(7,.int .i64)],[(.slot 0,1000,.box 155 [.own (.row 52 fG),.own (.row 118 iJ),.val (.sl dW)]),(.slot 3,20001,.box 33 [.val b7]),(.slot 4,20002,.box 33 [.val b7]),(.slot 5,20003,.box 33 [.val b7])],[],[]⟩
def tB:Shape:=⟨[(12,.int .i64),(13,.int .i64)],[(.slot 0,1000,.box 155 [.own (.row 52 fG),.own (.row 118 iJ),.val (.sl dW)]),(.slot 3,20001,.box 33 [.val b7])],[],[]⟩
def tC:Shape:=⟨[(12,.int .i64),(13,.int .i64)],[(.slot 2,20000,.box 44 [.val wS]),(.slot 3,20001,.box 33 [.val b7]),(.slot 4,20002,.box 33 [.val b7])],[],[]⟩
def tD:Shape:=⟨[(0,.sl (.pair (.pair (.int .i64) (.int .i64)) (.int .i64))),(7,.int .i64),(8,.int .i64)],[(.slot 3,20000,.box 33 [.val b7])],[],[]⟩
def tE:Shape:=⟨[(0,.sl (.sl (.pair (.pair (.int .i64) (.int .i64)) (.int .i64)))),(3,.int .i64),(9,.sl (.sl (.pair (.pair (.int .i64) (.int .i64)) (.int .i64)))),(10,.int .i64),(11,.int .i64)],[],[],[]⟩
def tF:Shape:=⟨[(25,.sl (.sl (.pair (.pair (.int .i64) (.int .i64)) (.int .i64)))),(26,.int .i64),(27,.int .i64)],[],[(6,31000,(.row 33 (.pair (.pair (.int .i64) (.int .i64)) (.int .i64))))],[]⟩
def wU:Shape:=⟨[(3,.int .i64),(6,.sl (.int .i64)),(7,.int .i64),(8,.int .i64)],[],[],[]⟩
def tG:Shape:=⟨[(9,.sl (.pair (.pair (.int .i64) (.int .i64)) (.pair (.sl (.pair (.pair (.int .i64) (.int .i64)) (.int .i64))) (.pair .str (.int .i64))))),(10,.int .i64),(11,.int .i64)],[(.slot 3,20000,.box 33 [.val b7]),(.slot 4,20001,.box 31 [.val nh])],[],[]⟩
def tH:Shape:=⟨[(8,.sl (.pair (.pair (.int .i64) (.int .i64)) (.pair .str (.int .i64)))),(9,.int .i64),(10,.int .i64)],[],[(3,31000,(.row 33 b7))],[]⟩
def qu:Shape:=⟨[(18,.sl (.pair (.pair (.int .i64) (.int .i64)) (.pair (.sl (.pair (.pair (.int .i64) (.int .i64)) (.int .i64))) (.pair .str (.int .i64))))),(19,.int .i64),(20,.int .i64)],[],[(3,31000,(.row 3 (.int .i64))),(4,31001,(.map (.pair (.pair (.int .i64) (.int .i64)) (.int .i64)) (.int .i64)))],[]⟩
def tI:Shape:=⟨[(5,.int .i64),(18,.sl (.pair (.pair (.int .i64) (.int .i64)) (.pair (.sl (.pair (.pair (.int .i64) (.int .i64)) (.int .i64))) (.pair .str (.int .i64))))),(19,.int .i64),(20,.int .i64),(30,.sl (.pair (.pair (.int .i64) (.int .i64)) (.int .i64))),(31,.int .i64),(32,.int .i64)],[],[(3,31000,(.row 3 (.int .i64))),(4,31001,(.map (.pair (.pair (.int .i64) (.int .i64)) (.int .i64)) (.int .i64)))],[]⟩
def nR:Shape:=⟨[(4,.mp (.pair (.pair (.int .i64) (.int .i64)) (.int .i64)) (.int .i64))],[],[(3,31000,(.row 3 (.int .i64))),(42,31001,(.iter (.pair (.pair (.int .i64) (.int .i64)) (.int .i64)) (.int .i64)))],[]⟩
def tJ:Shape:=⟨[(61,.int .i64),(62,.int .i64)],[],[(3,31000,(.row 3 (.int .i64))),(13,31001,(.row 3 (.int .i64)))],[]⟩
def tK:Shape:=⟨[(11,.sl (.pair (.pair (.int .i64) (.int .i64)) (.pair (.sl (.pair (.pair (.int .i64) (.int .i64)) (.int .i64))) (.pair .str (.int .i64))))),(12,.int .i64),(13,.int .i64)],[(.slot 3,20000,.box 33 [.val b7]),(.slot 4,20001,.box 33 [.val b7])],[],[]⟩
def qv:Shape:=⟨[(1,.int .i64)],[],[(0,1000,(.row 3 (.int .i64)))],[]⟩
def gH:Shape:=⟨[(0,.sl (.pair (.pair (.int .i64) (.int .i64)) (.pair (.sl (.pair (.pair (.int .i64) (.int .i64)) (.int .i64))) (.pair .str (.int .i64))))),(8,.int .i64),(9,.int .i64),(10,.int .i64)],[(.slot 4,20000,.box 31 [.val nh])],[],[(2,207,[])]⟩
def gI:Shape:=⟨[(0,.sl (.pair (.pair (.int .i64) (.int .i64)) (.pair .str (.int .i64)))),(8,.int .i64),(9,.int .i64),(10,.int .i64)],[(.slot 4,20000,.box 31 [.val nh])],[],[(2,214,[])]⟩
def je:Shape:=⟨[(0,.sl (.pair (.pair (.int .i64) (.int .i64)) (.int .i64))),(6,.int .i64)],[(.slot 4,20000,.box 33 [.val b7]),(.slot 5,20001,.box 33 [.val b7])],[],[(1,195,[])]⟩
def kW:Shape:=⟨[(11,.sl (.pair (.pair (.int .i64) (.int .i64)) (.pair (.sl (.pair (.pair (.int .i64) (.int .i64)) (.int .i64))) (.pair .str (.int .i64))))),(12,.int .i64),(13,.int .i64)],[(.slot 5,20000,.box 31 [.val nh]),(.slot 6,20001,.box 52 [.val (.int .i64),.val (.int .i64),.own (.row 33 b7),.val .str,.val (.int .i64)])],[],[(1,109,[])]⟩
def gK:Shape:=⟨[(0,.sl (.pair (.pair (.pair (.int .i64) (.int .i64)) (.int .i64)) (.pair (.pair (.int .i64) (.int .i64)) (.int .i64)))),(8,.int .i64),(9,.int .i64),(10,.int .i64)],[(.slot 4,20000,.box 33 [.val b7])],[],[(2,232,[])]⟩
def jf:Shape:=⟨[(0,.sl (.pair (.pair (.pair (.int .i64) (.int .i64)) (.int .i64)) (.pair (.pair (.int .i64) (.int .i64)) (.int .i64)))),(7,.int .i64),(8,.int .i64)],[(.cap 1 0,1000,.box 33 [.val b7])],[],[(1,245,[1000])]⟩
def jg:Shape:=⟨[(5,.int .i64),(8,.sl (.pair (.pair (.int .i64) (.int .i64)) (.pair (.sl (.pair (.pair (.int .i64) (.int .i64)) (.int .i64))) (.pair .str (.int .i64))))),(9,.int .i64),(10,.int .i64)],[],[],[(1,239,[])]⟩
def lN:Shape:=⟨[(0,.sl pI),(3,.bool),(5,.int .i64)],[],[(4,31000,(.row 27 pI))],[]⟩
def lO:Shape:=⟨[(0,.sl pI),(3,.bool),(5,.int .i64),(7,.bool),(8,.int .i64)],[(.slot 6,20000,.box 27 [.val pI])],[(4,31000,(.row 27 pI))],[]⟩
def qw:Shape:=⟨[(3,.bool),(13,.int .i64)],[(.slot 9,20000,.box 44 [.val wS]),(.slot 10,20001,.box 44 [.val wS])],[(4,31000,(.row 27 pI)),(11,31001,(.row 4 .bool)),(12,31002,(.row 4 .bool))],[]⟩
def nS:Shape:=⟨[(0,.sl pI),(4,.int .i64)],[],[(3,31000,(.row 27 pI))],[]⟩
def iA:Shape:=⟨[(4,.int .i64)],[(.slot 1,20000,.box 27 [.val pI])],[(3,31000,(.row 31 nh))],[]⟩
def kX:Shape:=⟨[(14,.int .i64),(15,.int .i64)],[(.slot 6,20000,.box 44 [.own (.row 52 fG),.own (.row 118 iJ),.own (.row 54 dW)]),(.slot 7,20001,.box 44 [.val wS])],[(13,1000,(.row 27 pI))],[(2,61,[])]⟩
def kY:Shape:=⟨[(14,.int .i64),(15,.int .i64)],[(.cap 2 0,1020,.box 46 [.own (.row 4 .bool)]),(.slot 6,20001,.box 44 [.own (.row 52 fG),.own (.row 118 iJ),.own (.row 54 dW)]),(.slot 7,20002,.box 44 [.val wS])],[(13,1000,(.row 27 pI))],[(2,62,[1020])]⟩
def ans:List (Nat×List (Nat×Shape)):=[(103,[(3,yK)]),(66,[(4,yL)]),(96,[(3,yM)]),(161,[(2,uM)]),(154,[(8,kV)]),(155,[(6,CE),(11,uN)]),(157,[(19,mg)]),(184,[(3,wT)]),(185,[(2,tB)]),(212,[(2,tC)]),(168,[(2,tD)]),(196,[(3,tE),(11,tF)]),(218,[(3,wU)]),(139,[(2,tG)]),(249,[(3,tH)]),(256,[(4,qu),(8,tI),(14,nR),(21,tJ)]),(258,[(2,tK)]),(260,[(1,qv)]),(208206,[(3,gH)]),(215213,[(3,gI)]),(196194,[(5,je)]),(110108,[(2,kW)]),(233231,[(3,gK)]),(246244,[(2,jf)]),(240238,[(3,jg)]),(3,[(4,lN),(9,lO),(19,qw)]),(16,[(3,nS)]),(17,[(3,iA)]),(562060,[(3,kX)]),(563060,[(3,kY)])]
def An(f:FuncId)(key:Nat):Option Shape:=(ans.find? (fun p=>p.1==f)).bind fun p=>(p.2.find? (fun q=>q.1==key)).map (fun q=>q.2)
abbrev JT(g:aL):=(sh:Shape)→List Item→sh.T→Option g.B
noncomputable def dr(f:FuncId)(g:aL)(fn:Func)(F:FT)(J:JT g)(x:g.A):Option g.B:=au Tryz.prog Eqs Sg F fn.ntmps (An f) J (o8 Tryz.prog g fn) fuel [.code (fn.body.getD .skip)] (entry g x)
noncomputable def nT(f j:Nat)(g:aL)(fn:Func)(sh:Shape)(F:FT)(J:JT g)(x:sh.T):Option g.B:=au Tryz.prog Eqs Sg F fn.ntmps (An f) J (o8 Tryz.prog g fn) fuel (round (bA Tryz.prog (f%1000) j)) (ai sh x)
end Go.Vs
namespace Go.Vs
open Go.Proofs
variable {G:(f:FuncId)→(g:aL)→Option (g.A→Option g.B)}
noncomputable abbrev FX(G:(f:FuncId)→(g:aL)→Option (g.A→Option g.B)):FT:=Fix Tryz.prog Eqs Sg An G
noncomputable abbrev LX(G:(f:FuncId)→(g:aL)→Option (g.A→Option g.B))(f:FuncId)(g:aL)(fn:Func):JT g:=Lp Tryz.prog Eqs Sg An G f g fn
abbrev HG(G:(f:FuncId)→(g:aL)→Option (g.A→Option g.B)):Prop:=∀f g,(f==240 || f==241)=false→G f g=none
theorem aJ{f:FuncId}{g:aL}{fn:Func}{x:g.A}{y:g.B}(hG:G f g=none)(hb:body Tryz.prog (f%1000)=some (fn,fn.body.getD .skip))(hc:(decide (g.ps.length≤fn.ntmps)&&decide (g.bs.length≤8))=true)
  (h:dr f g fn (FX G) (LX G f g fn) x=some y):FX G f g x=some y:=H5 hG hb hc h
theorem aK{f j:Nat}{g:aL}{fn:Func}{sh:Shape}{x:sh.T}{y:g.B}(hs:(match bA Tryz.prog (f%1000) j with | .inLoop _::_=>true|_=>false)=true)
  (h:nT f j g fn sh (FX G) (LX G f g fn) x=some y):LX G f g fn sh (bA Tryz.prog (f%1000) j) x=some y:=by
 unfold nT at h
 generalize bA Tryz.prog (f%1000) j=s at hs h ⊢
 split at hs
 ·exact L6 h
 ·cases hs
abbrev aaa:=(Int×(Int×Unit))
abbrev aab:=(ab×Unit)
abbrev aac:=((List (List aO))×Unit)
abbrev aae:=((aO×Unit)×(az×Unit))
abbrev aaf:=(Int×Unit)
abbrev aai:=((List aO)×Unit)
abbrev aaj:=(ID×Unit)
abbrev aal:=(aab×Unit)
abbrev aan:=(StateT×Unit)
abbrev aap:=((List ab)×Unit)
abbrev aat:=(((List ab)×aab)×Unit)
abbrev aaw:=((ak×Unit)×Unit)
abbrev aaz:=(az×Unit)
abbrev aaB:=((List Int)×Unit)
abbrev aaC:=((StateT×aai)×Unit)
abbrev aaF:=((List aj)×aaa)
end Go.Vs
