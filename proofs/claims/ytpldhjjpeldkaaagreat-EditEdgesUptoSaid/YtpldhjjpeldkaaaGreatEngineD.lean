/- The value semantics is sound for whole functions; the signatures of the program. -/
import Derived.Test.YtpldhjjpeldkaaaGreatEngineC
import Derived.Scope
import Derived.Test.YtpldhjjpeldkaaaGreatProg
import Derived.KernelRfl
set_option linter.unusedSimpArgs false
set_option linter.unusedVariables false
namespace Go.Vs
variable {P:Program} {Eqs:TypeId→Option K} {Sg:FuncId→Option aL} {F:(f:FuncId)→(g:aL)→g.A→Option g.B} {R:Type}
variable {Z Z' Z0:Nat→Prop} {ψ ψ' ψ0:Nat→Value} {h h':Hp} {w w' w0:World} {B0:Nat} {O N:Nat→Prop}
def fL(st:St):(l:List (Nat×Nat×OK))→JA (l.map (·.2.2))→List yz
 |[],_=>[]
 |(s,id,ok)::r,x=>(id,(o5 (look st.tmps s)).head?,.own ok x.1)::fL st r x.2
theorem vB(st:St):∀(l:List (Nat×Nat×OK)) (x:JA (l.map (·.2.2))),dH (fL st l x)=qT l x
 |[],_=>rfl
 |(s,id,ok)::r,x=>by simp only[fL,qT];rw[←vB st r x.2];rfl
theorem tE(st:St):∀(l:List (Nat×Nat×OK)) (x:JA (l.map (·.2.2))),(fL st l x).map (·.1)=l.map (·.2.1)
 |[],_=>rfl
 |(s,id,ok)::r,x=>by simp only[fL,List.map_cons];rw[tE st r x.2]
theorem yN(st:St):∀(l:List (Nat×Nat×OK)) (x:JA (l.map (·.2.2))),(fL st l x).filterMap (·.2.1)=l.flatMap fun p=>o5 (look st.tmps p.1)
 |[],_=>rfl
 |(s,id,ok)::r,x=>by
  simp only[fL,List.flatMap_cons]
  rw[dZ,yN st r x.2]
  simp only[]
  rw[wY]
theorem rf{st:St}{s id:Nat}{ok:OK}{r:List (Nat×Nat×OK)}{x:JA (((s,id,ok)::r).map (·.2.2))}(hd:nH st ((s,id,ok)::r)=some x):eg st.heap ok (look st.tmps s)=some x.1∧nH st r=some x.2:=by
 have e:nH st ((s,id,ok)::r)=(match eg st.heap ok (look st.tmps s),nH st r with
  |some x,some y=>some ((x,y):ok.T×JA (r.map (·.2.2)))
  |_,_=>none):=rfl
 rw[e]at hd
 clear e
 generalize eg st.heap ok (look st.tmps s)=o1 at hd ⊢
 generalize nH st r=o2 at hd ⊢
 cases o1 with
 |none=>cases hd
 |some x1 =>
  cases o2 with
  |none=>cases hd
  |some y1=>have:=Option.some.inj hd;subst this;exact⟨rfl,rfl⟩
theorem Bv{hd:Hp}{st:St}:∀(l:List (Nat×Nat×OK)) (x:JA (l.map (·.2.2))),nH st l=some x→(∀s∈(l.flatMap fun p=>o5 (look st.tmps p.1)),hd s=st.heap.get s) →
  ∀e∈fL st l x,vm Z ψ hd w h' ψ' e
 |[],_,_,_,e,he=>by simp[fL]at he
 |(s,id,ok)::r,x,hx,hk,e,he=>by
  obtain⟨h1,h2⟩:=rf hx
  simp only[List.flatMap_cons]at hk
  simp only[fL]at he
  rcases List.mem_cons.1 he with rfl|he
  ·exact Lm h1 fun s hs=>hk s (List.mem_append_left _ hs)
  ·exact Bv r x.2 h2 (fun s hs=>hk s (List.mem_append_right _ hs)) e he
theorem Hu{st:St}{s:Nat}{k:K}{r:List (Nat×K)}{x:GF (((s,k)::r).map (·.2))}(hd:qR st ((s,k)::r)=some x):gh k st.heap (look st.tmps s)=some x.1∧qR st r=some x.2:=by
 have e:qR st ((s,k)::r)=(match gh k st.heap (look st.tmps s),qR st r with
  |some x,some y=>some ((x,y):k.T×GF (r.map (·.2)))
  |_,_=>none):=rfl
 rw[e]at hd
 clear e
 generalize gh k st.heap (look st.tmps s)=o1 at hd ⊢
 generalize qR st r=o2 at hd ⊢
 cases o1 with
 |none=>cases hd
 |some x1 =>
  cases o2 with
  |none=>cases hd
  |some y1=>have:=Option.some.inj hd;subst this;exact⟨rfl,rfl⟩
theorem fi{T:List (Nat×AV)}{n:Nat}{a:Act}(fO:∀p∈T,aw Z ψ h w p.2 (a.tmps.getD p.1 undef))(hs:a.tmps.size=n)(hd:a.defers=[]):c8 Z ψ h w n (look T) a:=by
 refine⟨fun d=>?_,hs,hd⟩
 induction T with
 |nil=>simp only[look,aw]
 |cons p r ih =>
  obtain⟨i,v⟩:=p
  simp only[look]
  split
  ·rename_i e;subst e;exact fO _ List.mem_cons_self
  ·exact ih fun p hp=>fO p (List.mem_cons_of_mem _ hp)
section
variable {st:St} {n:Nat} {a:Act}
theorem vC(g:Good Z ψ st.heap.get w B0 O)(t:c8 Z ψ st.heap.get w n (look st.tmps) a)(hz:∀b,Z b→Z' b):∀(l:List (Nat×K)) (x:GF (l.map (·.2))),qR st l=some x →
  (∀id b,AV.bO id∈(l.flatMap fun p=>(look st.tmps p.1).cells)→st.heap.get id≠none→ob (ψ id)=some b→Z' b)→∀p∈qS l x,aw Z' ψ' h' w p.2 (a.tmps.getD p.1 undef)
 |[],_,_,_,p,hp=>by simp[qS]at hp
 |(s,k)::r,x,hx,hf,p,hp=>by
  obtain⟨h1,h2⟩:=Hu hx
  simp only[List.flatMap_cons]at hf
  simp only[qS]at hp
  rcases List.mem_cons.1 hp with rfl|hp
  ·exact so g hz (fun id b bT=>hf id b (List.mem_append_left _ bT)) h1 (t.rep s)
  ·exact vC g t hz r x.2 h2 (fun id b bT=>hf id b (List.mem_append_right _ bT)) p hp
theorem tF(t:c8 Z ψ st.heap.get w n (look st.tmps) a):∀(l:List (Src×Nat×BK)) (ids:List Nat),E1 st l=some ids→(∀i∈ids,st.heap.get i≠none) →
  (∀p∈ids.zip (l.map (·.2.1)),h' p.2≠none→ψ' p.2=ψ p.1)→∀p∈j4 l,aw Z' ψ' h' w p.2 (a.tmps.getD p.1 undef)
 |[],_,_,_,_,p,hp=>by simp[j4]at hp
 |(src,mR,b)::r,ids,hx,hi,jx,p,hp=>by
  simp only[E1]at hx
  split at hx
  ·rename_i i is h1 h2
   cases hx
   simp only[List.map_cons,List.zip_cons_cons]at jx
   have ih:=tF t r is h2 (fun j hj=>hi j (List.mem_cons_of_mem _ hj)) (fun p hp=>jx p (List.mem_cons_of_mem _ hp)) p
   cases src with
   |slot s =>
    simp only[j4]at hp
    rcases List.mem_cons.1 hp with rfl|hp
    ·simp only[Vc]at h1
     obtain⟨sz,h3⟩:=pH h1
     have h4:=t.rep s
     rw[h3]at h4
     exact zQ h4 (hi i List.mem_cons_self) (jx (i,mR) List.mem_cons_self)
    ·exact ih hp
   |cap s j=>exact ih (by simpa only[j4] using hp)
  ·cases hx
theorem Hv{hh:Heap}{ids:List (Nat×Nat)}(hi:∀p∈ids,hh.get p.1≠none)(jx:∀p∈ids,h' p.2≠none→ψ' p.2=ψ p.1):∀(cap:List AV) (is Dc:List Nat) (vs:List Value),jZ cap=some is →
  is.map (fun i=>(ids.find? (·.1==i)).map (·.2))=Dc.map some→ar Z ψ hh.get w cap vs→ar Z' ψ' h' w (Dc.map fun i=>.ref i 0 0 0) vs
 |[],is,Dc,vs,h1,h2,hr=>by
  simp only[jZ]at h1
  cases h1
  cases Dc with
  |nil=>simpa only[List.map_nil,ar] using hr
  |cons c r=>simp at h2
 |v::cap,is,Dc,vs,h1,h2,hr=>by
  simp only[jZ]at h1
  split at h1
  ·rename_i i is' h3 h4
   cases h1
   cases Dc with
   |nil=>simp at h2
   |cons c r =>
    simp only[List.map_cons,List.cons.injEq]at h2
    obtain⟨h5,h6⟩:=h2
    simp only[List.map_cons,ar]at hr ⊢
    obtain⟨u,us,rfl,h7,h8⟩:=hr
    obtain⟨sz,rfl⟩:=pH h3
    cases hf:ids.find? (·.1==i) with
    |none=>rw[hf]at h5;cases h5
    |some p =>
     rw[hf]at h5
     have hm:=List.mem_of_find?_eq_some hf
     have he:=List.find?_some hf
     simp only[Option.map_some,Option.some.injEq]at h5
     have Wt:p.1=i:=by simpa using he
     refine⟨u,us,rfl,zQ h7 (by rw[←Wt];exact hi p hm) (fun hn=>?_),Hv hi jx cap is' r us h4 h6 h8⟩
     rw[←h5,←Wt];exact jx p hm (by rw[h5];exact hn)
  ·cases h1
theorem yO(t:c8 Z ψ st.heap.get w n (look st.tmps) a){ids:List (Nat×Nat)}(hi:∀p∈ids,st.heap.get p.1≠none)(jx:∀p∈ids,h' p.2≠none→ψ' p.2=ψ p.1):∀(l:List (Nat×FuncId×List Nat)),Li st ids l=true →
  ∀p∈zL l,aw Z' ψ' h' w p.2 (a.tmps.getD p.1 undef)
 |[],_,p,hp=>by simp[zL]at hp
 |(s,f,Dc)::r,hx,p,hp=>by
  simp only[Li,Bool.and_eq_true]at hx
  simp only[zL,List.map_cons]at hp
  rcases List.mem_cons.1 hp with rfl|hp
  ·have h1:=hx.1
   split at h1
   ·rename_i f' cap hl
    simp only[Bool.and_eq_true,decide_eq_true_eq]at h1
    obtain⟨rfl,h2⟩:=h1
    split at h2
    ·rename_i is hri
     have h4:=t.rep s
     rw[hl]at h4
     simp only[aw]at h4 ⊢
     obtain⟨vs,h5,h6⟩:=h4
     exact⟨vs,h5,Hv hi jx cap is Dc _ hri (of_decide_eq_true h2) h6⟩
    ·cases h2
   ·cases h1
  ·exact yO t hi jx r hx.2 p hp
theorem vD(t:c8 Z ψ st.heap.get w n (look st.tmps) a):∀(l:List (Nat×Nat×OK)) (x:JA (l.map (·.2.2))),nH st l=some x→(∀e∈fL st l x,h' e.1≠none→ψ' e.1=kb ψ e.2.1) →
  ∀p∈(l.map fun p=>(p.1,AV.bO p.2.1)),aw Z' ψ' h' w p.2 (a.tmps.getD p.1 undef)
 |[],_,_,_,p,hp=>by simp at hp
 |(s,id,ok)::r,x,hx,jx,p,hp=>by
  obtain⟨h1,h2⟩:=rf hx
  simp only[fL]at jx
  simp only[List.map_cons]at hp
  rcases List.mem_cons.1 hp with rfl|hp
  ·exact Fc h1 (t.rep s) (jx _ List.mem_cons_self)
  ·exact vD t r x.2 h2 (fun e he=>jx e (List.mem_cons_of_mem _ he)) p hp
end
theorem vE{st:St}{m:Nat}:∀(l:List (Nat×Nat×OK)) (x:JA (l.map (·.2.2))),og st m l=true→∃o,(m,some m,o)∈fL st l x
 |[],_,h=>by cases h
 |(s,id,ok)::r,x,h=>by
  simp only[og,Bool.or_eq_true,Bool.and_eq_true,beq_iff_eq]at h
  rcases h with⟨rfl,h⟩|h
  ·split at h
   ·rename_i i hl
    have hi:i=id:=by simpa using h
    subst hi
    exact⟨_,by simp only[fL,hl,o5,List.head?_cons];exact List.mem_cons_self⟩
   ·cases h
  ·obtain⟨o,ho⟩:=vE r x.2 h
   exact⟨o,List.mem_cons_of_mem _ ho⟩
theorem tG{st:St}{m:Nat}:∀(l:List (Nat×Nat×OK)) (x:JA (l.map (·.2.2))),nH st l=some x→og st m l=true→st.heap.get m≠none
 |[],_,_,h=>by cases h
 |(s,id,ok)::r,x,hx,h=>by
  obtain⟨h1,h2⟩:=rf hx
  simp only[og,Bool.or_eq_true,Bool.and_eq_true,beq_iff_eq]at h
  rcases h with⟨rfl,h⟩|h
  ·split at h
   ·rename_i i hl
    have hi:i=id:=by simpa using h
    subst hi
    rw[hl]at h1
    simp only[eg]at h1
    split at h1
    ·rename_i hg;rw[hg];simp
    ·cases h1
   ·cases h
  ·exact tG r x.2 h2 h
theorem Ls{lf:List AV}{hh:Heap}{b:Nat}(hb:qG Z ψ hh.get lf b):Z b∨Own ψ hh.get b:=hb.imp (fun h=>h) fun⟨i,_,h2,h3⟩=>⟨i,h2,h3⟩
theorem gI{sh:Shape}{st:St}{x:sh.T}{n:Nat}{a:Act}(hx:cP sh st=some x)(k:Ok Z0 w0 O ψ0 Z ψ st.heap.get w)(t:c8 Z ψ st.heap.get w n (look st.tmps) a) :
  ∃Z' ψ',Ok Z0 w0 O ψ0 Z' ψ' (au sh x).heap.get w∧c8 Z' ψ' (au sh x).heap.get w n (look (au sh x).tmps) a:=by
 unfold cP at hx
 split at hx
 ·cases hx
 rename_i ids tc
 split at hx
 ·rename_i xv xb xr hv hb hr Dk
  cases hx
  simp only[Bool.and_eq_true]at Dk
  obtain⟨Hw,Bc,aeB,aeC⟩:=Dk
  obtain⟨hlen,vv⟩:=jD _ _ _ hb
  have Vr:(sh.boxes.map (·.2.1)).length=sh.bs.length:=by simp[Shape.bs]
  let L:List yz:=cI sh.bs st.heap ids (sh.boxes.map (·.2.1)) 9000 xb++fL st sh.rows xr
  have eH:dH L=(au sh (xv,xb,xr)).heap:=by
   show dH (_++_)=_
   rw[m0,jC _ _ _ _ _ _ hb Vr,vB];rfl
  have eN:L.map (·.1)=r8 sh:=by
   show(_++_:List yz).map _=_
   rw[List.map_append,iy _ _ _ _ _ _ hb Vr,tE];rfl
  have eS:L.filterMap (·.2.1)=GJ st sh ids:=by
   show(_++_:List yz).filterMap _=_
   rw[List.filterMap_append,kH _ _ _ _ _ _ hb Vr,yN];rfl
  have hn:cm (L.map (·.1))=true:=by rw[eN];exact Bc
  have jx:=zP (ψ:=ψ) hn
  have hz:∀b,Z b→qG Z ψ st.heap.get (zK st sh ids) b:=fun b hb=>.inl hb
  have D2:=(sD Hw).2 st.heap
  have g':Good (qG Z ψ st.heap.get (zK st sh ids)) (fh ψ L) (dH L).get w w0.heap.size O:=by
   refine wZ k.eL Hw hn eS fun e he=>?_
   rcases List.mem_append.1 he with he|he
   ·exact mg k.eL hz sh.bs ids _ 9000 xb hb (fun id b bT h1 h2=>.inr ⟨id,List.mem_append_right _ bT,h1,h2⟩) (fun s hs=>D2 s (List.mem_append_left _ hs)) (fun e he=>jx e (List.mem_append_left _ he)) e he
   ·exact Bv sh.rows xr hr (fun s hs=>D2 s (List.mem_append_right _ hs)) e he
  have Pn:∀p∈ids.zip (sh.boxes.map (·.2.1)),(dH L).get p.2≠none→fh ψ L p.2=ψ p.1:=fun p hp bp=>by
   obtain⟨o,ho⟩:=kI sh.bs ids (sh.boxes.map (·.2.1)) 9000 xb (hh:=st.heap) hlen p hp
   exact jx (p.2,some p.1,o) (List.mem_append_left _ ho) bp
  have wS:∀p∈ids.zip (sh.boxes.map (·.2.1)),st.heap.get p.1≠none:=fun p hp=>vv _ (List.of_mem_zip hp).1
  refine⟨qG Z ψ st.heap.get (zK st sh ids),fh ψ L,?_,?_⟩
  ·rw[←eH]
   refine⟨g',fun b hb=>.inl (k.fX b hb),fun b hb=>?_,k.os,k.tape,k.output,k.size,k.block,fun i hi bp=>?_⟩
   ·rcases Ls hb with h1|⟨id,h1,h2⟩
    ·exact k.eV b h1
    ·exact .inr (k.eL.live id b h1 h2).2.symm
   ·obtain⟨o,ho⟩:=Option.ne_none_iff_exists'.1 bp
    obtain⟨s,hm⟩:=oq ho
    have gH:i∈r8 sh:=by rw[←eN];exact List.mem_map.2 ⟨_,hm,rfl⟩
    have h1:=List.all_eq_true.1 aeB i gH
    simp only[Bool.or_eq_true,decide_eq_true_eq]at h1
    rcases h1 with(h1|h1)|h1
    ·omega
    ·obtain⟨p,hp,he⟩:=List.any_eq_true.1 h1
     simp only[Bool.and_eq_true,beq_iff_eq]at he
     have h2:=Pn p hp (by rw[he.2];exact bp)
     rw[he.1,he.2]at h2
     rw[h2]
     exact k.fix i hi (by have:=wS p hp;rwa [he.1]at this)
    ·obtain⟨o',nK⟩:=vE sh.rows xr h1
     have h2:fh ψ L i=ψ i:=jx (i,some i,o') (List.mem_append_right _ nK) bp
     rw[h2]
     exact k.fix i hi (tG sh.rows xr hr h1)
  ·rw[←eH]
   refine fi (fun p hp=>?_) t.size t.defers
   simp only[au]at hp
   rcases List.mem_append.1 hp with hp|hp
   ·exact vC k.eL t hz sh.zk xv hv (fun id b bT h1 h2=>.inr ⟨id,List.mem_append_left _ bT,h1,h2⟩) p hp
   ·rcases List.mem_append.1 hp with hp|hp
    ·exact tF t sh.boxes ids tc vv Pn p hp
    ·rcases List.mem_append.1 hp with hp|hp
     ·exact yO t wS Pn sh.fns aeC p hp
     ·exact vD t sh.rows xr hr (fun e he=>jx e (List.mem_append_right _ he)) p hp
 ·cases hx
end Go.Vs
namespace Go.Vs
variable {P:Program} {Eqs:TypeId→Option K} {Sg:FuncId→Option aL} {F:(f:FuncId)→(g:aL)→g.A→Option g.B} {R:Type}
variable {Z Z' Z0:Nat→Prop} {ψ ψ' ψ0:Nat→Value} {h h':Hp} {w w' w0:World} {B0:Nat} {O N:Nat→Prop}
def Reach(P:Program)(b:Frame)(cs:List Frame)(uy:Act→World→Prop)(m:Machine):Prop:=∃a' w' todo,uy a' w'∧Steps P m (lone { b.at a' todo with mode:=.returning } cs w')
theorem Reach.head{b:Frame}{cs:List Frame}{uy:Act→World→Prop}{m m':Machine}(h:step P m=.next m')(r:Reach P b cs uy m'):Reach P b cs uy m:=by
 obtain⟨a,w,todo,h1,h2⟩:=r
 exact⟨a,w,todo,h1,.head h h2⟩
theorem Reach.steps{b:Frame}{cs:List Frame}{uy:Act→World→Prop}{m m':Machine}(h:Steps P m m')(r:Reach P b cs uy m'):Reach P b cs uy m:=by
 obtain⟨a,w,todo,h1,h2⟩:=r
 exact⟨a,w,todo,h1,h.trans h2⟩
theorem rh(V:Env P Eqs Sg F)(hm:P.follows .mixedOrders=true){n:Nat}{ann:Nat→Option Shape}{J:(sh:Shape)→List Item→sh.T→Option R}{ret:St→Option R}{r:R}{b:Frame}{cs:List Frame}{uy:Act→World→Prop}
  (hJ:∀sh c k x Z ψ a w,J sh (.inLoop c::k) x=some r→Ok Z0 w0 O ψ0 Z ψ (au sh x).heap.get w→c8 Z ψ (au sh x).heap.get w n (look (au sh x).tmps) a→Reach P b cs uy (lone (b.at a (.code c::.inLoop c::k)) cs w))
  (td:∀st Z ψ a w,ret st=some r→Ok Z0 w0 O ψ0 Z ψ st.heap.get w→c8 Z ψ st.heap.get w n (look st.tmps) a→uy a w) :
  ∀(fu:Nat) (items:List Item) (st:St) (Z:Nat→Prop) (ψ:Nat→Value) (a:Act) (w:World),aC P Eqs Sg F n ann J ret fu items st=some r→Ok Z0 w0 O ψ0 Z ψ st.heap.get w→c8 Z ψ st.heap.get w n (look st.tmps) a →
   Reach P b cs uy (lone (b.at a items) cs w)
 |0,items,st,Z,ψ,a,w,hx,k,t=>by
  cases items<;>simp only[aC]at hx<;>cases hx
 |fu+1,[],st,Z,ψ,a,w,hx,k,t=>⟨a,w,[],td st Z ψ a w (by simpa only[aC] using hx) k t,.one step_end⟩
 |fu+1,it::Ni,st,Z,ψ,a,w,hx,k,t=>by
  have ih:=rh V hm (ann:=ann) hJ td fu
  have loop:∀c,(match ann (r9 c) with
    |none=>none
    |some sh=>match cP sh st with
     |some x=>J sh (.inLoop c::Ni) x
     |none=>none)=some r→Reach P b cs uy (lone (b.at a (.code c::.inLoop c::Ni)) cs w):=fun c hx=>by
   split at hx
   ·cases hx
   ·rename_i sh hsh
    split at hx
    ·rename_i x hxx
     obtain⟨Z',ψ',k',t'⟩:=gI hxx k t
     exact hJ sh c Ni x Z' ψ' a w hx k' t'
    ·cases hx
  cases it with
  |inBlock id=>exact .head step_inBlock (ih Ni st Z ψ a w (by simpa only[aC] using hx) k t)
  |inScope c=>exact .head step_inScope (ih Ni st Z ψ a w (by simpa only[aC] using hx) k t)
  |inLoop c=>exact .head step_inLoop (loop c (by simp only[aC]at hx;exact hx))
  |code c =>
   cases c with
   |skip=>exact .head step_skip (ih Ni st Z ψ a w (by simpa only[aC] using hx) k t)
   |label l=>exact .head step_label (ih Ni st Z ψ a w (by simpa only[aC] using hx) k t)
   |seq x y=>exact .head step_seq (ih _ st Z ψ a w (by simpa only[aC] using hx) k t)
   |cond c x y =>
    simp only[aC]at hx
    split at hx
    ·rename_i tt ht
     have h1:=q8 t c
     rw[ht]at h1
     simp only[aw]at h1
     cases tt with
     |true=>exact .head (step_cond h1) (ih _ st Z ψ a w hx k t)
     |false=>exact .head (step_cond h1) (ih _ st Z ψ a w hx k t)
    ·cases hx
   |scope c=>exact .head step_scope (ih _ st Z ψ a w (by simpa only[aC] using hx) k t)
   |block id c=>exact .head step_block (ih _ st Z ψ a w (by simpa only[aC] using hx) k t)
   |loop c =>
    simp only[aC]at hx
    cases fu with
    |zero=>simp only[aC]at hx;cases hx
    |succ fu=>exact .head step_loop (loop c (by simp only[aC]at hx;exact hx))
   |exit id =>
    simp only[aC]at hx
    split at hx
    ·rename_i k' hk;exact .head (step_exit hk) (ih _ st Z ψ a w hx k t)
    ·cases hx
   |ret=>exact⟨a,w,_,td st Z ψ a w (by simpa only[aC] using hx) k t,.one step_ret⟩
   |region id ops draw =>
    simp only[aC]at hx
    have hw:=Ft V hm (Q:=fun e a w=>e=.normal∧∃eU Z ψ,aC P Eqs Sg F n ann J ret fu Ni eU=some r∧Ok Z0 w0 O ψ0 Z ψ eU.heap.get w∧c8 Z ψ eU.heap.get w n (look eU.tmps) a) hx k t (fun eU Z ψ a w h1 h2 h3=>⟨rfl,eU,Z,ψ,h1,h2,h3⟩)
    obtain⟨e,a',w',⟨rfl,eU,Z',ψ',h1,h2,h3⟩,Pk⟩:=hw b Ni cs
    exact .steps Pk (ih Ni eU Z' ψ' a' w' h1 h2 h3)
   |_=>simp only[aC]at hx;cases hx
  |_=>simp only[aC]at hx;cases hx
theorem ri{hh:Heap}{n:Nat}{s:List (Nat×AV)}{a:Act}(g:Good Z ψ hh.get w B0 O)(t:c8 Z ψ hh.get w n (look s) a):∀(l:List ResultVar) (acc:Array Value) (vs:List AV),yn P hh s l=some vs →
  ∃us,(l.foldlM (fun(bs:Array Value) r=>do let y ←(match r with | .tmp t=>pure (a.tmps.getD t undef) | .cell p ty=>do loadVar ty (←asAddr (a.tmps.getD p undef)):Sem Value);pure (bs.push y)) acc:Sem (Array Value)).run P w=.ok (acc++us.toArray) w∧ar Z ψ hh.get w vs us
 |[],acc,vs,hx=>by
  simp only[yn]at hx
  cases hx
  exact⟨[],by simp,by simp only[ar]⟩
 |.tmp d::l,acc,vs,hx=>by
  simp only[yn]at hx
  split at hx
  ·rename_i iz h1
   cases hx
   obtain⟨us,h2,h3⟩:=ri g t l (acc.push (a.tmps.getD d undef)) iz h1
   refine⟨a.tmps.getD d undef::us,?_,by simp only[ar];exact⟨_,_,rfl,t.rep d,h3⟩⟩
   simp only[List.foldlM_cons,Sem.run_bind,Sem.run_pure,Result.andThen_ok]
   rw[h2];simp
  ·cases hx
 |.cell d ty::l,acc,vs,hx=>by
  simp only[yn]at hx
  split at hx
  ·rename_i id sz off hd
   split at hx
   ·rename_i bt cs hg
    split at hx
    ·rename_i v iz hv h1
     cases hx
     have h4:=t.rep d
     rw[hd]at h4
     simp only[aw]at h4
     obtain⟨ad,h5,h6⟩:=h4
     obtain⟨gg,ws,e1,e2,e3,e4⟩:=g.box id bt cs hg
     have h7:=h6 (by rw[hg];simp)
     rw[e1]at h7
     simp only[Tj,Nat.zero_mul,Nat.zero_add]at h7
     subst h7
     obtain⟨V,h8,h9⟩:=j6 (a:=⟨gg,off,none⟩) (e3.drop off) (fun j u hu=>by
      rw[cz];simp only[World.cell?,e2];rw[List.getElem?_drop]at hu;simpa using hu) hv
     have mN:(loadVar ty ⟨gg,off,none⟩).run P w=.ok V w:=by
      have:=h8
      simpa[Instr.loadAt,Instr.sureAddr] using this
     obtain⟨us,h2,h3⟩:=ri g t l (acc.push V) iz h1
     refine⟨V::us,?_,by simp only[ar];exact⟨_,_,rfl,h9,h3⟩⟩
     have zm:(asAddr (a.tmps.getD d undef)).run P w=.ok ⟨gg,off,none⟩ w:=by rw[h5];rfl
     simp only[List.foldlM_cons,Sem.run_bind,zm,Sem.run_pure,Result.andThen_ok,mN]
     rw[h2];simp
    ·cases hx
   ·cases hx
  ·cases hx
theorem Hy{fn:Func}{hh:Heap}{n:Nat}{s:List (Nat×AV)}{a:Act}{vs:List AV}(g:Good Z ψ hh.get w B0 O)(t:c8 Z ψ hh.get w n (look s) a)(hx:yn P hh s fn.results.toList=some vs) :
  ∃us v,(results fn a.tmps).run P w=.ok v w∧ar Z ψ hh.get w vs us∧v=(if us.length=1 then us.headD undef else .tuple us.toArray):=by
 obtain⟨us,h1,h2⟩:=ri (P:=P) g t fn.results.toList #[] vs hx
 refine⟨us,_,?_,h2,rfl⟩
 have h3:(fn.results.mapM fun r=>(match r with | .tmp t=>pure (a.tmps.getD t undef) | .cell p ty=>do loadVar ty (←asAddr (a.tmps.getD p undef)):Sem Value)).run P w=.ok us.toArray w:=by
  rw[Array.mapM_eq_foldlM,←Array.foldlM_toList]
  simpa using h1
 have h4:results fn a.tmps=(do
   let vs ←fn.results.mapM fun r=>(match r with | .tmp t=>pure (a.tmps.getD t undef) | .cell p ty=>do loadVar ty (←asAddr (a.tmps.getD p undef)):Sem Value)
   pure (if h:vs.size=1 then vs[0] else .tuple vs)):=rfl
 rw[h4,Sem.run_bind,h3,Result.andThen_ok,Sem.run_pure]
 congr 1
 by_cases h5:us.length=1
 ·obtain⟨u,rfl⟩:=List.length_eq_one_iff.1 h5
  simp
 ·rw[dif_neg (by simpa using h5),if_neg h5]
end Go.Vs
namespace Go.Vs
variable {P:Program} {Eqs:TypeId→Option K} {Sg:FuncId→Option aL} {F:(f:FuncId)→(g:aL)→g.A→Option g.B} {R:Type}
variable {Z Z' Z0:Nat→Prop} {ψ ψ' ψ0:Nat→Value} {h h':Hp} {w w' w0:World} {B0:Nat} {O N:Nat→Prop}
theorem gK:∀(ps:List PK) (ids:List Nat) (s:Nat) (x:GF (lg ps)) (us:List Value),ar Z ψ h w ((aT ps ids s x).map (·.2)) us→us.length=ps.length∧∀p∈aT ps ids s x,∃j u,p.1=s+j∧us[j]? = some u∧aw Z ψ h w p.2 u
 |[],ids,s,x,us,hr=>by
  simp only[aT,List.map_nil,ar]at hr
  subst hr
  exact⟨rfl,fun p hp=>by simp[aT]at hp⟩
 |.val k::ps,ids,s,x,us,hr=>by
  simp only[aT,List.map_cons,ar]at hr
  obtain⟨u,jv,rfl,h1,h2⟩:=hr
  obtain⟨h3,h4⟩:=gK ps ids (s+1) x.2 jv h2
  refine⟨by simp[h3],fun p hp=>?_⟩
  simp only[aT]at hp
  rcases List.mem_cons.1 hp with rfl|hp
  ·exact⟨0,u,rfl,rfl,h1⟩
  ·obtain⟨j,u',h5,h6,h7⟩:=h4 p hp
   exact⟨j+1,u',by omega,by simpa using h6,h7⟩
 |.ref::ps,i::ids,s,x,us,hr=>by
  simp only[aT,List.map_cons,ar]at hr
  obtain⟨u,jv,rfl,h1,h2⟩:=hr
  obtain⟨h3,h4⟩:=gK ps ids (s+1) x jv h2
  refine⟨by simp[h3],fun p hp=>?_⟩
  simp only[aT]at hp
  rcases List.mem_cons.1 hp with rfl|hp
  ·exact⟨0,u,rfl,rfl,h1⟩
  ·obtain⟨j,u',h5,h6,h7⟩:=h4 p hp
   exact⟨j+1,u',by omega,by simpa using h6,h7⟩
 |.ref::ps,[],s,x,us,hr=>by
  simp only[aT,List.map_cons,ar]at hr
  obtain⟨u,jv,rfl,h1,h2⟩:=hr
  obtain⟨h3,h4⟩:=gK ps [] (s+1) x jv h2
  refine⟨by simp[h3],fun p hp=>?_⟩
  simp only[aT]at hp
  rcases List.mem_cons.1 hp with rfl|hp
  ·exact⟨0,u,rfl,rfl,h1⟩
  ·obtain⟨j,u',h5,h6,h7⟩:=h4 p hp
   exact⟨j+1,u',by omega,by simpa using h6,h7⟩
 |.own::ps,i::ids,s,x,us,hr=>by
  simp only[aT,List.map_cons,ar]at hr
  obtain⟨u,jv,rfl,h1,h2⟩:=hr
  obtain⟨h3,h4⟩:=gK ps ids (s+1) x jv h2
  refine⟨by simp[h3],fun p hp=>?_⟩
  simp only[aT]at hp
  rcases List.mem_cons.1 hp with rfl|hp
  ·exact⟨0,u,rfl,rfl,h1⟩
  ·obtain⟨j,u',h5,h6,h7⟩:=h4 p hp
   exact⟨j+1,u',by omega,by simpa using h6,h7⟩
 |.own::ps,[],s,x,us,hr=>by
  simp only[aT,List.map_cons,ar]at hr
  obtain⟨u,jv,rfl,h1,h2⟩:=hr
  obtain⟨h3,h4⟩:=gK ps [] (s+1) x jv h2
  refine⟨by simp[h3],fun p hp=>?_⟩
  simp only[aT]at hp
  rcases List.mem_cons.1 hp with rfl|hp
  ·exact⟨0,u,rfl,rfl,h1⟩
  ·obtain⟨j,u',h5,h6,h7⟩:=h4 p hp
   exact⟨j+1,u',by omega,by simpa using h6,h7⟩
 |.GD f m::ps,ids,s,x,us,hr=>by
  simp only[aT,List.map_cons,ar]at hr
  obtain⟨u,jv,rfl,h1,h2⟩:=hr
  obtain⟨h3,h4⟩:=gK ps (ids.drop m) (s+1) x jv h2
  refine⟨by simp[h3],fun p hp=>?_⟩
  simp only[aT]at hp
  rcases List.mem_cons.1 hp with rfl|hp
  ·exact⟨0,u,rfl,rfl,h1⟩
  ·obtain⟨j,u',h5,h6,h7⟩:=h4 p hp
   exact⟨j+1,u',by omega,by simpa using h6,h7⟩
 |.agg m::ps,ids,s,x,us,hr=>by
  simp only[aT,List.map_cons,ar]at hr
  obtain⟨u,jv,rfl,h1,h2⟩:=hr
  obtain⟨h3,h4⟩:=gK ps (ids.drop m) (s+1) x jv h2
  refine⟨by simp[h3],fun p hp=>?_⟩
  simp only[aT]at hp
  rcases List.mem_cons.1 hp with rfl|hp
  ·exact⟨0,u,rfl,rfl,h1⟩
  ·obtain⟨j,u',h5,h6,h7⟩:=h4 p hp
   exact⟨j+1,u',by omega,by simpa using h6,h7⟩
section
variable {An:FuncId→Nat→Option Shape}
theorem Bw(V:Env P Eqs Sg F)(hm:P.follows .mixedOrders=true){f:FuncId}{g:aL}{fn:Func}{y:g.B}{b:Frame}{cs:List Frame}{uy:Act→World→Prop}
  (td:∀st Z ψ a w,qU P g fn st=some y→Ok Z0 w0 O ψ0 Z ψ st.heap.get w→c8 Z ψ st.heap.get w fn.ntmps (look st.tmps) a→uy a w) :
  ∀(n:Nat) (sh:Shape) (c:Code) (k:List Item) (x:sh.T) (Z:Nat→Prop) (ψ:Nat→Value) (a:Act) (w:World),mS P Eqs Sg An F f g fn n sh (.inLoop c::k) x=some y →
   Ok Z0 w0 O ψ0 Z ψ (au sh x).heap.get w→c8 Z ψ (au sh x).heap.get w fn.ntmps (look (au sh x).tmps) a→Reach P b cs uy (lone (b.at a (.code c::.inLoop c::k)) cs w)
 |0,sh,c,k,x,Z,ψ,a,w,hx,_,_=>by simp only[mS]at hx;cases hx
 |n+1,sh,c,k,x,Z,ψ,a,w,hx,ko,t=>by
  simp only[mS]at hx
  exact rh V hm (fun sh c k x Z ψ a w h1 h2 h3=>Bw V hm td n sh c k x Z ψ a w h1 h2 h3) td fuel _ _ Z ψ a w hx ko t
theorem Fu{n i:Nat}(h:i∈aO n):∃j,j<n∧i=1000+20*j:=by
 unfold aO at h
 obtain⟨j,h1,rfl⟩:=List.mem_map.1 h
 exact⟨j,List.mem_range.1 h1,rfl⟩
theorem PN{α:Type}{l:List α}{a:α}(h:a∈l):(a,a)∈l.zip l:=by
 induction l with
 |nil=>cases h
 |cons b r ih =>
  simp only[List.zip_cons_cons]
  rcases List.mem_cons.1 h with rfl|h
  ·exact List.mem_cons_self
  ·exact List.mem_cons_of_mem _ (ih h)
theorem Kc(V:Env P Eqs Sg F)(hm:P.follows .mixedOrders=true){f:FuncId}{g:aL}{n:Nat}{x:g.A}{y:g.B}(hx:JB P Eqs Sg An F f g n x=some y):D0 P f g x y:=by
 intro Z ψ0 w kJ hg hr
 unfold JB at hx
 split at hx
 ·cases hx
 rename_i fn c Vt
 have hf:P.funcs[f%1000]? = some fn∧fn.body=some c:=by
  unfold body at Vt
  obtain⟨fn',h1,h2⟩:=Option.bind_eq_some_iff.1 Vt
  obtain⟨c',h3,h4⟩:=Option.map_eq_some_iff.1 h2
  cases h4
  exact⟨h1,h3⟩
 split at hx
 ·rename_i hle
  simp only[Bool.and_eq_true,decide_eq_true_eq]at hle
  obtain⟨hlen,WR⟩:=gK g.ps (aO g.bs.length) 0 x.1 kJ hr
  intro cs
  let b:Frame:={ (default:Frame) with fn:=f%1000,kind:=.normal }
  let a0:Act:={ tmps:=kJ.toArray++Array.replicate (fn.ntmps-kJ.toArray.size) undef,defers:=[] }
  have WS:Frame.enter P (f%1000) kJ.toArray .normal=b.at a0 [.code c]:=by
   simp[Frame.enter,Frame.at,hf.1,hf.2,b,a0]
  have ok0:Ok Z w (Own ψ0 (pN g x)) ψ0 Z ψ0 (entry g x).heap.get w :=
   ⟨hg,fun _ h=>h,fun _ h=>.inl h,rfl,rfl,rfl,Nat.le_refl _,fun _ _ _=>rfl,fun _ _ _=>rfl⟩
  have tr0:c8 Z ψ0 (entry g x).heap.get w fn.ntmps (look (entry g x).tmps) a0:=by
   refine fi (fun p hp=>?_) (by simp[a0];omega) rfl
   obtain⟨j,u,h1,h2,h3⟩:=WR p hp
   rw[h1]
   have hj:j<kJ.length:=(List.getElem?_eq_some_iff.1 h2).1
   have:a0.tmps.getD (0+j) undef=u:=by
    rw[Nat.zero_add,Array.getD_eq_getD_getElem?]
    simp only[a0]
    rw[Array.getElem?_append_left (by simpa using hj)]
    simp[h2]
   rw[this];exact h3
  have td:∀st Z1 n3 a w1,qU P g fn st=some y→Ok Z w (Own ψ0 (pN g x)) ψ0 Z1 n3 st.heap.get w1→c8 Z1 n3 st.heap.get w1 fn.ntmps (look st.tmps) a →
    a.defers=[]∧∃v,(results fn a.tmps).run P w1=.ok v w1∧∃v' Z' ψ',Ending.returned v=.returned v'∧(∀b,Z b→Z' b)∧(∀b,Z' b→Z b∨Own ψ0 (pN g x) b∨w.heap.size≤b)∧dh ψ0 (pN g x) w w1 ∧
     Good Z' ψ' (ke g y).get w1 w.heap.size (Own ψ0 (pN g x))∧(∀i∈aO g.bs.length,ψ' i=ψ0 i)∧aw Z' ψ' (ke g y).get w1 (fC (aV g.rs (aO g.bs.length) 2000 3000 y.1)) v':=by
   intro st Z1 n3 a w1 td k t
   refine⟨t.defers,?_⟩
   unfold qU at td
   split at td
   ·cases td
   rename_i vs tZ
   split at td
   ·rename_i y1 y2 hd hb Dk
    cases td
    simp only[Bool.and_eq_true]at Dk
    obtain⟨Hw,Bc⟩:=Dk
    obtain⟨us,v,h1,h2,h3⟩:=Hy (P:=P) k.eL t tZ
    have Vr:(aO g.bs.length).length=g.bs.length:=by simp[aO]
    let L:List yz:=cI g.bs st.heap (aO g.bs.length) (aO g.bs.length) 2000 y2++cM g.rs vs 3000 y1
    have eH:dH L=ke g (y1,y2):=by
     show dH (_++_)=_
     rw[m0,jC _ _ _ _ _ _ hb Vr,gV];rfl
    have eN:L.map (·.1)=qJ g:=by
     show(_++_:List yz).map _=_
     rw[List.map_append,iy _ _ _ _ _ _ hb Vr,fS];rfl
    have eS:L.filterMap (·.2.1)=dg g.bs st.heap (aO g.bs.length)++dV g.rs vs:=by
     show(_++_:List yz).filterMap _=_
     rw[List.filterMap_append,kH _ _ _ _ _ _ hb Vr,jh _ _ _ _ hd]
    have hn:cm (L.map (·.1))=true:=by rw[eN];exact Bc
    have jx:=zP (ψ:=n3) hn
    have hz:∀b,Z1 b→qG Z1 n3 st.heap.get (gy g.rs vs++gx g.bs st.heap (aO g.bs.length)) b:=fun b hb=>.inl hb
    have D2:=(sD Hw).2 st.heap
    have g':Good (qG Z1 n3 st.heap.get (gy g.rs vs++gx g.bs st.heap (aO g.bs.length))) (fh n3 L) (dH L).get w1 w.heap.size (Own ψ0 (pN g x)):=by
     refine wZ k.eL Hw hn eS fun e he=>?_
     rcases List.mem_append.1 he with he|he
     ·exact mg k.eL hz g.bs _ _ 2000 y2 hb (fun id b bT h1 h2=>.inr ⟨id,List.mem_append_right _ bT,h1,h2⟩) (fun s hs=>D2 s (List.mem_append_left _ hs)) (fun e he=>jx e (List.mem_append_left _ he)) e he
     ·exact kd g.rs vs 3000 y1 hd (fun s hs=>D2 s (List.mem_append_right _ hs)) e he
    obtain⟨Ee,vv⟩:=jD _ _ _ hb
    have PO:=sE (ids2:=aO g.bs.length) (Z':=qG Z1 n3 st.heap.get (gy g.rs vs++gx g.bs st.heap (aO g.bs.length))) (ψ':=fh n3 L) (h':=(dH L).get) k.eL hz hb Vr (fun e he=>jx e (List.mem_append_left _ he)) g.rs vs 3000 y1 us hd
     (fun id b bT h1 h2=>.inr ⟨id,List.mem_append_left _ bT,h1,h2⟩) (fun e he=>jx e (List.mem_append_right _ he)) h2
    refine⟨v,h1,v,qG Z1 n3 st.heap.get (gy g.rs vs++gx g.bs st.heap (aO g.bs.length)),fh n3 L,rfl,fun b hb=>.inl (k.fX b hb),fun b hb=>?_,⟨k.os,k.tape,k.output,k.size,k.block⟩,by rw[←eH];exact g',fun i hi=>?_,?_⟩
    ·rcases Ls hb with h4|⟨id,h4,h5⟩
     ·exact k.eV b h4
     ·exact .inr (k.eL.live id b h4 h5).2.symm
    ·obtain⟨o,ho⟩:=kI (hh:=st.heap) g.bs (aO g.bs.length) (aO g.bs.length) 2000 y2 Ee (i,i) (PN hi)
     rw[jg hn (List.mem_append_left _ ho)]
     obtain⟨j,h4,h5⟩:=Fu hi
     exact k.fix i (by omega) (vv i hi)
    ·rw[←eH]
     have OR:us.length=(aV g.rs (aO g.bs.length) 2000 3000 y1).length:=PO.length.symm
     rw[h3]
     match hE:aV g.rs (aO g.bs.length) 2000 3000 y1,us,PO,OR with
     |[],[],PO,_=>simp only[fC];simp only[aw];exact⟨#[],rfl,by simpa using PO⟩
     |[e1],[u],PO,_ =>
      simp only[ar]at PO
      obtain⟨u',jv,he,h4,_⟩:=PO
      cases he
      simpa[fC] using h4
     |e1::e2::er,u1::u2::ur,PO,_ =>
      simp only[fC,aw]
      exact⟨(u1::u2::ur).toArray,by simp,by simpa using PO⟩
   ·cases td
  have reach:=rh V hm (b:=b) (cs:=cs) (fun sh c k x Z ψ a w h1 h2 h3=>Bw V hm td n sh c k x Z ψ a w h1 h2 h3) td fuel _ _ Z ψ0 a0 w hx ok0 tr0
  obtain⟨a',w',todo,⟨hd,v,vF,hR⟩,hs⟩:=reach
  rw[←WS]at hs
  exact⟨.returned v,w',_,hR,hs,rfl,rfl,hd,rfl,fn,hf.1,vF⟩
 ·cases hx
end
theorem Hz(hX:∀f g u,Sg f=some g→g.x=some u→iU P (f%1000) u){G:(f:FuncId)→(g:aL)→Option (g.A→Option g.B)}{An:FuncId→Nat→Option Shape}(C4:∀t k,Eqs t=some k→mb P t k)(M1:∀f g,Sg f=some g→jE P (f%1000))(hm:P.follows .mixedOrders=true)
  (hG:∀f g u x y,Sg f=some g→G f g=some u→u x=some y→D0 P f g x y):∀(m:Nat) f g x y,Sg f=some g→Fn P Eqs Sg An G m f g x=some y→D0 P f g x y
 |0,f,g,x,y,hs,hx=>by
  simp only[Fn]at hx
  split at hx
  ·rename_i u hu;exact hG f g u x y hs hu hx
  ·cases hx
 |m+1,f,g,x,y,hs,hx=>by
  simp only[Fn]at hx
  split at hx
  ·rename_i u hu;exact hG f g u x y hs hu hx
  ·exact Kc ⟨C4,fun f g x y h1 h2=>Hz hX C4 M1 hm hG m f g x y h1 h2,hX,M1⟩ hm hx
end Go.Vs
namespace Go.Vs
abbrev FT:=(f:FuncId)→(g:aL)→g.A→Option g.B
variable {P:Program} {Eqs:TypeId→Option K} {Sg:FuncId→Option aL} {R:Type}
def uP(p:Nat→Prop):Prop:=∃m,∀m',m≤m'→p m'
theorem uP.now{p:Nat→Prop}(h:∀m,p m):uP p:=⟨0,fun m _=>h m⟩
theorem uP.and{p q r:Nat→Prop}(h:uP p)(k:uP q)(hr:∀m,p m→q m→r m):uP r:=by
 obtain⟨a,ha⟩:=h
 obtain⟨b,hb⟩:=k
 exact⟨max a b,fun m hm=>hr m (ha m (by omega)) (hb m (by omega))⟩
theorem uP.imp{p r:Nat→Prop}(h:uP p)(hr:∀m,p m→r m):uP r:=by
 obtain⟨a,ha⟩:=h
 exact⟨a,fun m hm=>hr m (ha m hm)⟩
def To(A:Nat→FT)(L:FT):Prop:=∀f g x y,L f g x=some y→uP fun m=>A m f g x=some y
def ToK{α:Type}(A:Nat→α→Option R)(L:α→Option R):Prop:=∀x y,L x=some y→uP fun m=>A m x=some y
def ToJ(A:Nat→(sh:Shape)→List Item→sh.T→Option R)(L:(sh:Shape)→List Item→sh.T→Option R):Prop:=∀sh k x y,L sh k x=some y→uP fun m=>A m sh k x=some y
theorem PQ(h:Heap)(id:Nat)(f:FuncId)(vs:List AV):(∀F F':FT,jA Sg F h id f vs some=jA Sg F' h id f vs some) ∨
  ∃ff g x,(∀F F':FT,F ff g x=F' ff g x→jA Sg F h id f vs some=jA Sg F' h id f vs some)∧∀F:FT,F ff g x=none→jA Sg F h id f vs some=none:=by
 unfold jA
 split
 ·exact .inl fun _ _=>rfl
 rename_i g hg
 split
 ·exact .inl fun _ _=>rfl
 split
 ·split
  ·split
   ·rename_i x b hx hb hp
    refine .inr ⟨_,g,(x,b),fun F F' e=>by rw[e],fun F e=>by rw[e];rfl⟩
   ·exact .inl fun _ _=>rfl
  ·split
   ·rename_i x b hx hb hp
    refine .inr ⟨_,g,(x,b),fun F F' e=>by rw[e],fun F e=>by rw[e];rfl⟩
   ·exact .inl fun _ _=>rfl
 ·exact .inl fun _ _=>rfl
theorem TP{A:Nat→FT}{L:FT}(hA:To A L){h:Heap}{id:Nat}{f:FuncId}{vs:List AV}{e:bK}(he:jA Sg L h id f vs some=some e):uP fun m=>jA Sg (A m) h id f vs some=some e:=by
 rcases PQ (Sg:=Sg) h id f vs with k|⟨ff,g,x,k1,k2⟩
 ·exact .now fun m=>(k _ _).trans he
 ·cases hy:L ff g x with
  |none=>rw[k2 L hy]at he;cases he
  |some y=>exact(hA _ _ _ _ hy).imp fun m hm=>(k1 (A m) L (hm.trans hy.symm)).trans he
theorem HA{A:Nat→FT}{L:FT}(hA:To A L){id:Nat}{h:Heap}{s:List (Nat×AV)}{o:Oper}{e:bK}(he:c4 P Eqs Sg L id h s o some=some e):uP fun m=>c4 P Eqs Sg (A m) id h s o some=some e:=by
 obtain⟨dst,op,type,pos,after,guard⟩:=o
 cases op with
 |call c =>
  obtain⟨callee,args,argTypes⟩:=c
  cases callee with
  |value f =>
   simp only[c4]at he
   split at he
   ·rename_i f' cap hf
    refine(TP hA he).imp fun m hm=>?_
    simp only[c4,hf]
    exact hm
   ·cases he
  |builtin bi=>cases bi<;>exact .now fun m=>he
  |invoke _ _=>exact .now fun m=>he
 |unOp u _ _=>cases u<;>exact .now fun m=>he
 |makeFunc fn _ _=>cases fn<;>exact .now fun m=>he
 |makeMap _ r=>cases r<;>exact .now fun m=>he
 |next _ b=>cases b<;>exact .now fun m=>he
 |_=>exact .now fun m=>he
theorem uP.all{p:Nat→Nat→Prop}:∀(n:Nat),(∀j,j<n→uP (p j))→uP fun m=>∀j,j<n→p j m
 |0,_=>.now fun m j hj=>absurd hj (Nat.not_lt_zero _)
 |n+1,h=>(uP.all n fun j hj=>h j (by omega)).and (h n (by omega)) fun m h1 h2 j hj=>by
  by_cases e:j=n
  ·subst e;exact h2
  ·exact h1 j (by omega)
theorem Kd{h:Heap}{x:AV}{K:Nat→AV→Heap→Option R}{KL:AV→Heap→Option R}(hK:∀v h y,KL v h=some y→uP fun m=>K m v h=some y){r:R}(he:lC h x KL=some r):uP fun m=>lC h x (K m)=some r:=by
 unfold lC at he ⊢
 split at he
 ·rename_i id
  split at he
  ·rename_i kk vk p hg
   try simp only[hg]
   cases hp:p.2 with
   |nil =>
    simp only[hp,List.isEmpty_nil,cond_true]at he ⊢
    exact hK _ _ _ he
   |cons c l =>
    simp only[hp,List.isEmpty_cons,cond_false]at he ⊢
    have h1:=oy he
    refine(uP.all _ fun j hj=>?_).imp fun m hm=>nh (by simp) hm
    have h2:=h1 j hj
    rw[List.getElem?_eq_getElem hj]at h2 ⊢
    simp only[Option.bind_some]at h2 ⊢
    exact hK _ _ _ h2
  ·cases he
 ·cases he
theorem PR{h:Heap}{x:AV}{want:Bool}{K:Nat→AV→Option R}{KL:AV→Option R}(hK:∀v y,KL v=some y→uP fun m=>K m v=some y){r:R}(he:uZ h x want KL=some r):uP fun m=>uZ h x want (K m)=some r:=by
 unfold uZ at he ⊢
 split at he
 ·exact hK _ _ he
 ·rename_i xs hv
  cases si:xs.isEmpty with
  |true =>
   simp only[si,cond_true]at he ⊢
   have h1:=oy he
   exact(uP.all _ fun j hj=>hK _ _ (h1 j hj)).imp fun m hm=>nh (by decide) hm
  |false =>
   simp only[si,cond_false]at he ⊢
   exact hK _ _ he
 ·cases he
theorem Bx{A:Nat→FT}{L:FT}(hA:To A L){rid:Nat}{draw:Bool}{ops:Array Oper}{b:Array Nat}{K:Nat→St→Option R}{KL:St→Option R}(hK:ToK K KL) :
  ∀(l:List (Nat×Oper)) (st:St) (r:R),bF P Eqs Sg L rid draw ops b l st KL=some r→uP fun m=>bF P Eqs Sg (A m) rid draw ops b l st (K m)=some r
 |[],st,r,he=>hK st r (by simpa only[bF] using he)
 |(i,o)::l,st,r,he=>by
  have ih:=Bx hA (rid:=rid) (draw:=draw) (ops:=ops) (b:=b) hK l
  have run:∀st:St,(match (if draw then none else o8 P (opId rid i) st o) with
    |some eU=>bF P Eqs Sg L rid draw ops b l eU KL
    |none=>match (if draw then none else uY o) with
    |some x=>lC st.heap (ρ st.tmps x) fun v h=>bF P Eqs Sg L rid draw ops b l (({ st with heap:=h }:St).put o.dst v) KL
    |none=>match (if draw then none else isNil P o) with
    |some (x,want)=>uZ st.heap (ρ st.tmps x) want fun v=>bF P Eqs Sg L rid draw ops b l (st.put o.dst v) KL
    |none=>if draw then c4 P Eqs Sg L (opId rid i) (iu (ahead rid (b.getD i 0) st.heap) (iv ops b i st.tmps o)) st.tmps o fun e =>
     if(ia true rid ops b i (b.getD i 0) (ij (iv ops b i st.tmps o) (ahead rid (b.getD i 0) st.heap) e)&&nG (iv ops b i st.tmps o) e)=true then
      bF P Eqs Sg L rid draw ops b l ({ st with heap:=match ij (iv ops b i st.tmps o) (ahead rid (b.getD i 0) st.heap) e with | .wr _ h=>h|e=>e.h st.heap }.put o.dst e.v) KL else none
     else c4 P Eqs Sg L (opId rid i) st.heap st.tmps o fun e =>
     if ia false rid ops b i (2 ^ i-1) e then bF P Eqs Sg L rid draw ops b l ({ st with heap:=match e with | .wr _ h=>h|e=>e.h st.heap }.put o.dst e.v) KL else none)=some r →
    uP fun m=>(match (if draw then none else o8 P (opId rid i) st o) with
    |some eU=>bF P Eqs Sg (A m) rid draw ops b l eU (K m)
    |none=>match (if draw then none else uY o) with
    |some x=>lC st.heap (ρ st.tmps x) fun v h=>bF P Eqs Sg (A m) rid draw ops b l (({ st with heap:=h }:St).put o.dst v) (K m)
    |none=>match (if draw then none else isNil P o) with
    |some (x,want)=>uZ st.heap (ρ st.tmps x) want fun v=>bF P Eqs Sg (A m) rid draw ops b l (st.put o.dst v) (K m)
    |none=>if draw then c4 P Eqs Sg (A m) (opId rid i) (iu (ahead rid (b.getD i 0) st.heap) (iv ops b i st.tmps o)) st.tmps o fun e =>
     if(ia true rid ops b i (b.getD i 0) (ij (iv ops b i st.tmps o) (ahead rid (b.getD i 0) st.heap) e)&&nG (iv ops b i st.tmps o) e)=true then
      bF P Eqs Sg (A m) rid draw ops b l ({ st with heap:=match ij (iv ops b i st.tmps o) (ahead rid (b.getD i 0) st.heap) e with | .wr _ h=>h|e=>e.h st.heap }.put o.dst e.v) (K m) else none
     else c4 P Eqs Sg (A m) (opId rid i) st.heap st.tmps o fun e =>
     if ia false rid ops b i (2 ^ i-1) e then bF P Eqs Sg (A m) rid draw ops b l ({ st with heap:=match e with | .wr _ h=>h|e=>e.h st.heap }.put o.dst e.v) (K m) else none)=some r:=by
   intro st h
   split at h
   ·rename_i eU ox
    try simp only[ox]
    exact ih _ r h
   rename_i ox
   split at h
   ·rename_i x D8
    try simp only[ox,D8]
    exact Kd (fun v h y hy=>ih _ y hy) h
   rename_i D8
   split at h
   ·rename_i x want Zz
    try simp only[ox,D8,Zz]
    exact PR (fun v y hy=>ih _ y hy) h
   rename_i Zz
   try simp only[ox,D8,Zz]
   cases draw with
   |true =>
    simp only[if_true]at h ⊢
    rw[lN]at h
    obtain⟨e,h1,h2⟩:=Option.bind_eq_some_iff.1 h
    by_cases hc:(ia true rid ops b i (b.getD i 0) (ij (iv ops b i st.tmps o) (ahead rid (b.getD i 0) st.heap) e)&&nG (iv ops b i st.tmps o) e)=true
    ·rw[if_pos hc]at h2
     refine(HA hA h1).and (ih _ r h2) fun m h3 h4=>?_
     rw[lN,h3,Option.bind_some,if_pos hc]
     exact h4
    ·rw[if_neg hc]at h2;cases h2
   |false =>
    simp only[Bool.false_eq_true,if_false]at h ⊢
    rw[lN]at h
    obtain⟨e,h1,h2⟩:=Option.bind_eq_some_iff.1 h
    by_cases hc:ia false rid ops b i (2 ^ i-1) e=true
    ·rw[if_pos hc]at h2
     refine(HA hA h1).and (ih _ r h2) fun m h3 h4=>?_
     rw[lN,h3,Option.bind_some,if_pos hc]
     exact h4
    ·rw[if_neg hc]at h2;cases h2
  simp only[bF]at he ⊢
  split at he
  ·rename_i hg
   try simp only[hg]
   exact run _ he
  ·rename_i j want hg
   try simp only[hg]
   split at he
   ·cases he
   ·rename_i d hd
    try simp only[hd]
    split at he
    ·rename_i t ht
     try simp only[ht]
     cases t<;>cases want<;>simp only[cond_true,cond_false,if_true,if_false,Bool.false_eq_true]at he ⊢<;>first|exact run _ he|exact ih _ r he
    ·rename_i ht
     try simp only[ht]
     exact ih _ r he
    ·cases he
theorem Dq{A:Nat→FT}{L:FT}(hA:To A L){n rid:Nat}{ops:Array Oper}{draw:Bool}{K:Nat→St→Option R}{KL:St→Option R}(hK:ToK K KL){st:St}{r:R}
  (he:iO P Eqs Sg L n rid ops draw st KL=some r):uP fun m=>iO P Eqs Sg (A m) n rid ops draw st (K m)=some r:=by
 unfold iO at he ⊢
 by_cases hc:((ops.all fun o=>iM n o)&&(!draw || (uV ops (if draw then Region.before ops else #[])&&(AD ops (if draw then Region.before ops else #[])&&cm (ops.toList.filterMap (·.dst)))))&&decide (ops.size≤128))=true
 ·dsimp only at he ⊢
  rw[if_pos hc]at he
  refine(Bx hA hK _ _ r he).imp fun m hm=>?_
  rw[if_pos hc]
  exact hm
 ·dsimp only at he
  rw[if_neg hc]at he;cases he
theorem gX{A:Nat→FT}{L:FT}(hA:To A L){n:Nat}{ann:Nat→Option Shape}{J:Nat→(sh:Shape)→List Item→sh.T→Option R}{JL:(sh:Shape)→List Item→sh.T→Option R}(hJ:ToJ J JL){ret:St→Option R} :
  ∀(fu:Nat) (items:List Item) (st:St) (r:R),aC P Eqs Sg L n ann JL ret fu items st=some r→uP fun m=>aC P Eqs Sg (A m) n ann (J m) ret fu items st=some r
 |0,items,st,r,he=>by cases items<;>simp only[aC]at he<;>cases he
 |fu+1,[],st,r,he=>.now fun m=>by simpa only[aC] using he
 |fu+1,it::Ni,st,r,he=>by
  have ih:=gX hA (n:=n) (ann:=ann) hJ (ret:=ret) fu
  cases it with
  |inBlock id=>simp only[aC]at he ⊢;exact ih _ _ _ he
  |inScope c=>simp only[aC]at he ⊢;exact ih _ _ _ he
  |inLoop c =>
   simp only[aC]at he ⊢
   split at he
   ·cases he
   ·rename_i sh hsh
    try simp only[hsh]
    split at he
    ·rename_i x hx
     try simp only[hx]
     exact hJ _ _ _ _ he
    ·cases he
  |code c =>
   cases c with
   |cond c x y =>
    simp only[aC]at he ⊢
    split at he
    ·rename_i t ht
     try simp only[ht]
     cases t<;>simp only[cond_true,cond_false]at he ⊢<;>exact ih _ _ _ he
    ·cases he
   |exit id =>
    simp only[aC]at he ⊢
    split at he
    ·rename_i k' hk
     try simp only[hk]
     exact ih _ _ _ he
    ·cases he
   |ret=>exact .now fun m=>by simpa only[aC] using he
   |region id ops draw =>
    simp only[aC]at he ⊢
    exact Dq hA (K:=fun m eU=>aC P Eqs Sg (A m) n ann (J m) ret fu Ni eU) (fun st y h=>ih Ni st y h) he
   |skip=>simp only[aC]at he ⊢;exact ih _ _ _ he
   |label l=>simp only[aC]at he ⊢;exact ih _ _ _ he
   |seq x y=>simp only[aC]at he ⊢;exact ih _ _ _ he
   |block id c=>simp only[aC]at he ⊢;exact ih _ _ _ he
   |scope c=>simp only[aC]at he ⊢;exact ih _ _ _ he
   |loop c=>simp only[aC]at he ⊢;exact ih _ _ _ he
   |_=>simp only[aC]at he;cases he
  |_=>simp only[aC]at he;cases he
section
variable {An:FuncId→Nat→Option Shape} {G:(f:FuncId)→(g:aL)→Option (g.A→Option g.B)}
def WT(F F':FT):Prop:=∀f g x y,F f g x=some y→F' f g x=some y
theorem WT.to{F F':FT}(h:WT F F'):To (fun _=>F') F:=fun f g x y hy=>.now fun _=>h f g x y hy
theorem uP.get{p:Prop}(h:uP fun _=>p):p:=by obtain⟨m,hm⟩:=h;exact hm m (Nat.le_refl _)
theorem oz{F F':FT}(h:WT F F'){f:FuncId}{g:aL}{fn:Func}:∀(n n':Nat) (sh:Shape) (k:List Item) (x:sh.T) (y:g.B),n≤n'→mS P Eqs Sg An F f g fn n sh k x=some y→mS P Eqs Sg An F' f g fn n' sh k x=some y
 |0,_,_,_,_,_,_,hx=>by simp only[mS]at hx;cases hx
 |n+1,0,_,_,_,_,hn,_=>by omega
 |n+1,n'+1,sh,k,x,y,hn,hx=>by
  cases k with
  |nil=>simp only[mS]at hx;cases hx
  |cons it k =>
   cases it with
   |inLoop c =>
    simp only[mS]at hx ⊢
    exact(gX h.to (J:=fun _=>mS P Eqs Sg An F' f g fn n') (JL:=mS P Eqs Sg An F f g fn n) (fun sh k x y hy=>.now fun _=>oz h n n' sh k x y (by omega) hy) _ _ _ _ hx).get
   |_=>simp only[mS]at hx;cases hx
theorem Nj{F F':FT}(h:WT F F'){f:FuncId}{g:aL}{n n':Nat}{x:g.A}{y:g.B}(hn:n≤n')(hx:JB P Eqs Sg An F f g n x=some y):JB P Eqs Sg An F' f g n' x=some y:=by
 unfold JB at hx ⊢
 split at hx
 ·cases hx
 ·rename_i fn c hb
  try simp only[hb]
  split at hx
  ·rename_i hc
   simp only[if_pos hc]
   exact(gX h.to (J:=fun _=>mS P Eqs Sg An F' f g fn n') (JL:=mS P Eqs Sg An F f g fn n) (fun sh k x y hy=>.now fun _=>oz h n n' sh k x y hn hy) _ _ _ _ hx).get
  ·cases hx
theorem z8:∀m,WT (Fn P Eqs Sg An G m) (Fn P Eqs Sg An G (m+1))
 |0,f,g,x,y,hx=>by
  simp only[Fn]at hx ⊢
  split at hx
  ·rename_i u hu;(try simp only[hu]);exact hx
  ·cases hx
 |m+1,f,g,x,y,hx=>by
  rw[Fn]at hx ⊢
  split at hx
  ·rename_i u hu;(try simp only[hu]);exact hx
  ·rename_i hu
   try simp only[hu]
   exact Nj (z8 m) (Nat.le_succ m) hx
theorem Aa{m m':Nat}(h:m≤m'):WT (Fn P Eqs Sg An G m) (Fn P Eqs Sg An G m'):=by
 induction h with
 |refl=>exact fun _ _ _ _ h=>h
 |step _ ih=>exact fun f g x y hx=>z8 _ f g x y (ih f g x y hx)
variable (P Eqs Sg An G) in
open Classical in
noncomputable def Fix:FT:=fun f g x=>if h:∃m y,Fn P Eqs Sg An G m f g x=some y then some (Classical.choose (Classical.choose_spec h)) else none
theorem Fv:To (Fn P Eqs Sg An G) (Fix P Eqs Sg An G):=fun f g x y hy=>by
 unfold Fix at hy
 split at hy
 ·rename_i h
  cases hy
  exact⟨Classical.choose h,fun m' hm=>Aa hm _ _ _ _ (Classical.choose_spec (Classical.choose_spec h))⟩
 ·cases hy
theorem PS{m:Nat}{f:FuncId}{g:aL}{x:g.A}{y:g.B}(h:Fn P Eqs Sg An G m f g x=some y):Fix P Eqs Sg An G f g x=some y:=by
 have he:∃m y,Fn P Eqs Sg An G m f g x=some y:=⟨m,y,h⟩
 cases hy:Fix P Eqs Sg An G f g x with
 |none=>unfold Fix at hy;rw[dif_pos he]at hy;cases hy
 |some y' =>
  obtain⟨m1,h1⟩:=Fv f g x y' hy
  have h2:=h1 (max m m1) (by omega)
  have h3:=Aa (show m≤max m m1 by omega) f g x y h
  rw[h2]at h3
  exact h3
variable (P Eqs Sg An G) in
open Classical in
noncomputable def Lp(f:FuncId)(g:aL)(fn:Func)(sh:Shape)(k:List Item)(x:sh.T):Option g.B :=
 if h:∃m y,mS P Eqs Sg An (Fn P Eqs Sg An G m) f g fn m sh k x=some y then some (Classical.choose (Classical.choose_spec h)) else none
theorem PT{f:FuncId}{g:aL}{fn:Func}:ToJ (fun m=>mS P Eqs Sg An (Fn P Eqs Sg An G m) f g fn m) (Lp P Eqs Sg An G f g fn):=fun sh k x y hy=>by
 unfold Lp at hy
 split at hy
 ·rename_i h
  cases hy
  exact⟨Classical.choose h,fun m' hm=>oz (Aa hm) _ _ _ _ _ _ hm (Classical.choose_spec (Classical.choose_spec h))⟩
 ·cases hy
theorem ZG{m:Nat}{f:FuncId}{g:aL}{fn:Func}{sh:Shape}{k:List Item}{x:sh.T}{y:g.B}(h:mS P Eqs Sg An (Fn P Eqs Sg An G m) f g fn m sh k x=some y):Lp P Eqs Sg An G f g fn sh k x=some y:=by
 have he:∃m y,mS P Eqs Sg An (Fn P Eqs Sg An G m) f g fn m sh k x=some y:=⟨m,y,h⟩
 cases hy:Lp P Eqs Sg An G f g fn sh k x with
 |none=>unfold Lp at hy;rw[dif_pos he]at hy;cases hy
 |some y' =>
  obtain⟨m1,h1⟩:=PT sh k x y' hy
  have h2:=h1 (max m m1) (by omega)
  have h3:=oz (Aa (show m≤max m m1 by omega)) m (max m m1) sh k x y (by omega) h
  exact h2.symm.trans h3
theorem Lt{f:FuncId}{g:aL}{x:g.A}{y:g.B}{fn:Func}{c:Code}(hG:G f g=none)(hb:body P (f%1000)=some (fn,c))(hc:(decide (g.ps.length≤fn.ntmps)&&decide (g.bs.length≤8))=true)
  (h:aC P Eqs Sg (Fix P Eqs Sg An G) fn.ntmps (An f) (Lp P Eqs Sg An G f g fn) (qU P g fn) fuel [.code c] (entry g x)=some y):Fix P Eqs Sg An G f g x=some y:=by
 obtain⟨m,hm⟩:=gX (Fv (P:=P) (Eqs:=Eqs) (Sg:=Sg) (An:=An) (G:=G)) (PT (f:=f) (g:=g) (fn:=fn)) _ _ _ _ h
 refine PS (m:=m+1) ?_
 simp only[Fn,hG]
 unfold JB
 simp only[hb,if_pos hc]
 exact hm m (Nat.le_refl _)
theorem Ef{f:FuncId}{g:aL}{x:g.A}{y:g.B}{u:g.A→Option g.B}(hG:G f g=some u)(h:u x=some y):Fix P Eqs Sg An G f g x=some y:=by
 refine PS (m:=0) ?_
 simp only[Fn,hG]
 exact h
theorem PU{f:FuncId}{g:aL}{fn:Func}{sh:Shape}{c:Code}{k:List Item}{x:sh.T}{y:g.B}
  (h:aC P Eqs Sg (Fix P Eqs Sg An G) fn.ntmps (An f) (Lp P Eqs Sg An G f g fn) (qU P g fn) fuel (.code c::.inLoop c::k) (au sh x)=some y):Lp P Eqs Sg An G f g fn sh (.inLoop c::k) x=some y:=by
 obtain⟨m,hm⟩:=gX (Fv (P:=P) (Eqs:=Eqs) (Sg:=Sg) (An:=An) (G:=G)) (PT (f:=f) (g:=g) (fn:=fn)) _ _ _ _ h
 refine ZG (m:=m+1) ?_
 simp only[mS]
 refine(gX (L:=Fn P Eqs Sg An G m) (WT.to (z8 m)) (J:=fun _=>mS P Eqs Sg An (Fn P Eqs Sg An G (m+1)) f g fn m) (JL:=mS P Eqs Sg An (Fn P Eqs Sg An G m) f g fn m) (fun sh k x y hy=>.now fun _=>oz (z8 m) m m sh k x y (Nat.le_refl _) hy) _ _ _ _ (hm m (Nat.le_refl _))).get
theorem Ab(hX:∀f g u,Sg f=some g→g.x=some u→iU P (f%1000) u)(C4:∀t k,Eqs t=some k→mb P t k)(M1:∀f g,Sg f=some g→jE P (f%1000))(hm:P.follows .mixedOrders=true)
  (hG:∀f g u x y,Sg f=some g→G f g=some u→u x=some y→D0 P f g x y) {f:FuncId} {g:aL} {x:g.A} {y:g.B} (hs:Sg f=some g) (h:Fix P Eqs Sg An G f g x=some y):D0 P f g x y:=by
 obtain⟨m,Tx⟩:=Fv f g x y h
 exact Hz hX C4 M1 hm hG m f g x y hs (Tx m (Nat.le_refl _))
end
end Go.Vs
namespace Go.Vs
open Go.Proofs
abbrev ab:=((Int×Int)×Int)
abbrev ID:=(Int×Int)
abbrev ag:=(ID×((List ab)×(ByteArray×Int)))
abbrev ah:=(ID×(ByteArray×Int))
abbrev ai:=((List ag)×(List ah))
abbrev aq:=(ab×ab)
abbrev StateT:=(ai×(List aq))
abbrev pS:=(ID×ab)
abbrev bL:=(Int×(ID×(ID×(ID×(pS×(pS×(Bool×(ByteArray×Int))))))))
abbrev aF:=((List ag)×((List ah)×((List aq)×Unit)))
abbrev k13:K:=(.pair .str (.int .u64))
abbrev iJ:K:=(.pair (.int .i64) (.int .i64))
abbrev k68:K:=(.pair .str (.pair (.int .i64) .bool))
abbrev bw:K:=(.pair iJ (.int .i64))
abbrev k7:K:=(.pair (.int .i64) (.pair (.int .i64) (.pair .bool (.int .u8))))
abbrev fM:K:=(.pair iJ (.pair .str (.int .i64)))
abbrev SX:K:=(.pair iJ bw)
abbrev dA:K:=(.pair bw bw)
abbrev eO:K:=(.pair iJ (.pair (.sl bw) (.pair .str (.int .i64))))
abbrev dk:K:=(.pair (.sl eO) (.sl fM))
abbrev lP:K:=(.pair dk (.sl dA))
abbrev tH:K:=(.pair (.int .i64) (.pair iJ (.pair iJ (.pair iJ (.pair SX (.pair SX (.pair .bool (.pair .str (.int .i64)))))))))
abbrev uQ:K:=(.one (.sl tH))
def pT(xs:List ag)(ys:List ah):Bool:=decide (xs.length≤50000000)&&(decide (ys.length≤50000000)&&xs.all fun v=>decide (v.2.1.length≤50000000))
def Fw(h:Heap)(id:Nat):List AV→Option (Bool×bK)
 |[.agg [.bO a,.bO b]]=>match eg h (.row 48 eO) (.bO a),eg h (.row 56 fM) (.bO b) with
  |some xs,some ys=>if a=b then none else some (pT xs ys,.new (.agg [.bO (id+128),.bO (id+129)]) [(id+128,.own (.row 48 eO) xs),(id+129,.own (.row 56 fM) ys)])
  |_,_=>none
 |_=>none
def sg3:aL:={ ps:=[.val lP,.val tH],bs:=[],rs:=[.val .bool] }
def sg4:aL:={ ps:=[.val (.sl uQ),.val iJ],bs:=[],rs:=[.val .bool] }
def YD:aL:={ ps:=[.val (.sl uQ),.val bw,.val bw],bs:=[],rs:=[.val .bool] }
def sg6:aL:={ ps:=[.val (.sl uQ),.val iJ,.val (.int .i64)],bs:=[],rs:=[.val .bool] }
def sg7:aL:={ ps:=[.val (.sl uQ),.val iJ,.val k68],bs:=[],rs:=[.val .bool] }
def sg8:aL:={ ps:=[.val (.sl uQ),.val iJ],bs:=[],rs:=[.val .bool] }
def sg9:aL:={ ps:=[.val (.sl uQ)],bs:=[],rs:=[.val .bool] }
def aeD:aL:={ ps:=[.val (.sl uQ)],bs:=[],rs:=[.val .bool] }
def aeE:aL:={ ps:=[.val (.sl uQ),.val uQ],bs:=[],rs:=[.val .bool] }
def PV:aL:={ ps:=[],bs:=[],rs:=[.val .bool] }
def aeF:aL:={ ps:=[.val lP],bs:=[],rs:=[.val .bool] }
def zo:aL:={ ps:=[.val lP,.val tH],bs:=[],rs:=[.val lP,.val (.int .i64)] }
def PW:aL:={ ps:=[.val lP,.val tH],bs:=[],rs:=[.val lP,.val (.int .i64)] }
def aeG:aL:={ ps:=[.val lP,.val lP],bs:=[],rs:=[.val .bool] }
def HB:aL:={ ps:=[.val (.sl uQ)],bs:=[],rs:=[.val lP] }
def kQ:aL:={ ps:=[.val dk,.val iJ],bs:=[],rs:=[.val eO,.val .bool] }
def By:aL:={ ps:=[.val iJ],bs:=[],rs:=[.val .bool] }
def rj:aL:={ ps:=[.val dk,.val bw],bs:=[],rs:=[.val iJ,.val .bool] }
def xg:aL:={ ps:=[.val dk,.val iJ],bs:=[],rs:=[.val fM,.val .bool] }
def Dt:aL:={ ps:=[.val dk,.val bw],bs:=[],rs:=[.val (.sl bw)] }
def zp:aL:={ ps:=[.val bw],bs:=[],rs:=[.val bw] }
def qB:aL:={ ps:=[.val (.sl bw),.val bw],bs:=[],rs:=[.val (.int .i64)] }
def PX:aL:={ ps:=[.val dk,.val iJ,.val iJ],bs:=[],rs:=[.val .bool] }
def zq:aL:={ ps:=[.val (.sl bw),.val bw],bs:=[],rs:=[.val bw,.val .bool] }
def xh:aL:={ ps:=[.val dk,.val dk],bs:=[],rs:=[.val .bool] }
def Fx:aL:={ ps:=[.val .str],bs:=[],rs:=[.val .bool] }
def Nk:aL:={ ps:=[.val (.int .i64)],bs:=[],rs:=[.val .bool] }
def PY:aL:={ ps:=[.val lP,.val uQ],bs:=[],rs:=[.val lP,.val (.int .i64)] }
def HC:aL:={ ps:=[.val dk],bs:=[],rs:=[.own (.row 46 (.sl bw))] }
def HD:aL:={ ps:=[.val dk],bs:=[],rs:=[.val (.int .i64)] }
def PZ:aL:={ ps:=[],bs:=[],rs:=[.val lP] }
def Nl:aL:={ ps:=[.val uQ],bs:=[],rs:=[.val uQ] }
def HE:aL:={ ps:=[.val lP,.val uQ],bs:=[],rs:=[.val lP,.val (.int .i64)] }
def aeH:aL:={ ps:=[.val lP,.val uQ],bs:=[],rs:=[.val lP] }
def P1:aL:={ ps:=[.val lP,.val uQ],bs:=[],rs:=[.val lP] }
def Du:aL:={ ps:=[.val dk],bs:=[],rs:=[.agg [.own (.row 48 eO),.own (.row 56 fM)]] }
def aeI:aL:={ ps:=[.val (.sl dA)],bs:=[],rs:=[.val .bool] }
def aeJ:aL:={ ps:=[.val dk],bs:=[],rs:=[.val (.int .i64)] }
def HF:aL:={ ps:=[.val uQ],bs:=[],rs:=[.val (.int .i64)] }
def P2:aL:={ ps:=[.val (.int .i64)],bs:=[],rs:=[.val uQ] }
def Dv:aL:={ ps:=[.val tH],bs:=[],rs:=[.val (.int .i64)] }
def HH:aL:={ ps:=[.val lP,.val (.sl tH)],bs:=[],rs:=[.val lP,.val (.int .i64)] }
def Nm:aL:={ ps:=[.val tH],bs:=[],rs:=[.val (.int .i64)] }
def Fy:aL:={ ps:=[.val dk,.val eO],bs:=[],rs:=[.val dk] }
def pU:aL:={ ps:=[.val dk,.val iJ,.val iJ],bs:=[],rs:=[.val dk] }
def P3:aL:={ ps:=[.val lP,.val tH],bs:=[],rs:=[.val lP,.val (.int .i64)] }
def P4:aL:={ ps:=[.val lP,.val tH],bs:=[],rs:=[.val lP,.val (.int .i64)] }
def P5:aL:={ ps:=[.val lP,.val tH],bs:=[],rs:=[.val lP,.val (.int .i64)] }
def zr:aL:={ ps:=[.val lP,.val tH],bs:=[],rs:=[.val lP,.val (.int .i64)] }
def Bz:aL:={ ps:=[.val lP,.val tH],bs:=[],rs:=[.val lP,.val (.int .i64)] }
def aeK:aL:={ ps:=[.val (.sl dA),.val (.sl dA)],bs:=[],rs:=[.val .bool] }
def Nn:aL:={ ps:=[.val dk,.val bw],bs:=[],rs:=[.val bw,.val .bool] }
def vG:aL:={ ps:=[.val dk,.val iJ],bs:=[],rs:=[.val (.int .i64)] }
def rk:aL:={ ps:=[.val dk],bs:=[],rs:=[.own (.row 3 (.int .i64))] }
def HI:aL:={ ps:=[.val (.sl bw),.val (.sl bw)],bs:=[],rs:=[.val .bool] }
def Ke:aL:={ ps:=[.val uQ],bs:=[],rs:=[.val (.int .i64)] }
def Fz:aL:={ ps:=[.val dk],bs:=[],rs:=[.own (.row 32 bw)] }
def HJ:aL:={ ps:=[.val dk],bs:=[],rs:=[.agg [.own (.row 48 eO),.own (.row 56 fM)]] }
def Kf:aL:={ ps:=[.val (.sl dA)],bs:=[],rs:=[.own (.row 103 dA)] }
def No:aL:={ ps:=[.val bw,.val bw],bs:=[],rs:=[.val (.int .i64)] }
def aeL:aL:={ ps:=[.val dk],bs:=[],rs:=[.val (.int .i64)] }
def HK:aL:={ ps:=[.val dk],bs:=[],rs:=[.val (.int .i64)] }
def HL:aL:={ ps:=[.val tH],bs:=[],rs:=[.val tH,.val (.int .i64)] }
def zt:aL:={ ps:=[.ref,.val tH],bs:=[.box 109 [.own (.row 48 eO),.own (.row 56 fM),.val (.sl dA)]],rs:=[.val (.int .i64)] }
def Np:aL:={ ps:=[.val tH],bs:=[],rs:=[.val tH] }
def Nq:aL:={ ps:=[.val SX],bs:=[],rs:=[.val .bool] }
def HM:aL:={ ps:=[.val iJ,.val iJ],bs:=[],rs:=[.val (.int .i64)] }
def Nr:aL:={ ps:=[.val lP,.val SX],bs:=[],rs:=[.val SX,.val (.int .i64)] }
def zu:aL:={ ps:=[.val dk,.val fM],bs:=[],rs:=[.val dk] }
def zw:aL:={ ps:=[.val dk,.val SX,.val bw],bs:=[],rs:=[.val dk] }
def zx:aL:={ ps:=[.val (.sl dA),.val dA],bs:=[],rs:=[.val (.sl dA)] }
def Ns:aL:={ ps:=[.val dk,.val bw],bs:=[],rs:=[.val bw] }
def Nt:aL:={ ps:=[.val dk,.val bw],bs:=[],rs:=[.val dk] }
def HN:aL:={ ps:=[.val dk,.val bw,.val bw],bs:=[],rs:=[.val dk] }
def qC:aL:={ ps:=[.val (.sl bw)],bs:=[],rs:=[.own (.row 32 bw)] }
def P6:aL:={ ps:=[.val dk,.val bw],bs:=[],rs:=[.val bw,.val .bool] }
def Nu:aL:={ ps:=[.val (.sl eO)],bs:=[],rs:=[.own (.row 48 eO)] }
def Nv:aL:={ ps:=[.val (.sl fM)],bs:=[],rs:=[.own (.row 56 fM)] }
def zy:aL:={ ps:=[.val (.sl bw)],bs:=[],rs:=[.own (.row 32 bw)] }
def aeM:aL:={ ps:=[.val dk],bs:=[],rs:=[.val (.sl iJ)] }
def aeN:aL:={ ps:=[.val (.sl iJ)],bs:=[],rs:=[.val .bool] }
def aeO:aL:={ ps:=[.val dk],bs:=[],rs:=[.val .bool] }
def HO:aL:={ ps:=[.val dk],bs:=[],rs:=[.val (.int .i64),.val (.int .i64),.val (.int .i64),.val (.int .i64)] }
def rl:aL:={ ps:=[.val iJ],bs:=[],rs:=[.val .bool] }
def Dx:aL:={ ps:=[.val SX],bs:=[],rs:=[.val .bool] }
def xi:aL:={ ps:=[.val .str],bs:=[],rs:=[.val .bool] }
def HP:aL:={ ps:=[.val (.int .i64)],bs:=[],rs:=[.val .bool] }
def HQ:aL:={ ps:=[.ref,.val eO],bs:=[.box 109 [.own (.row 48 eO),.own (.row 56 fM),.val (.sl dA)]],rs:=[.val (.int .i64)] }
def P7:aL:={ ps:=[.ref,.val tH],bs:=[.box 109 [.own (.row 48 eO),.own (.row 56 fM),.val (.sl dA)]],rs:=[.val (.int .i64)] }
def oC:aL:={ ps:=[.ref,.val tH],bs:=[.box 109 [.own (.row 48 eO),.own (.row 56 fM),.val (.sl dA)]],rs:=[.val (.int .i64)] }
def BA:aL:={ ps:=[.ref,.val tH],bs:=[.box 109 [.own (.row 48 eO),.own (.row 56 fM),.val (.sl dA)]],rs:=[.val (.int .i64)] }
def zz:aL:={ ps:=[.ref,.val tH],bs:=[.box 109 [.own (.row 48 eO),.own (.row 56 fM),.val (.sl dA)]],rs:=[.val (.int .i64)] }
def rm:aL:={ ps:=[.ref,.val tH],bs:=[.box 109 [.own (.row 48 eO),.own (.row 56 fM),.val (.sl dA)]],rs:=[.val (.int .i64)] }
def P8:aL:={ ps:=[.ref,.val tH],bs:=[.box 109 [.own (.row 48 eO),.own (.row 56 fM),.val (.sl dA)]],rs:=[.val (.int .i64)] }
def P9:aL:={ ps:=[.val bw],bs:=[],rs:=[.val .bool] }
def HR:aL:={ ps:=[.val lP,.val bw],bs:=[],rs:=[.val bw] }
def Dy:aL:={ ps:=[.val dk,.val iJ,.val (.sl bw)],bs:=[],rs:=[.val dk] }
def yP:aL:={ ps:=[.val (.sl bw),.val bw,.val bw],bs:=[],rs:=[.own (.row 32 bw)] }
def tI:aL:={ ps:=[.val (.sl dA),.val bw],bs:=[],rs:=[.val bw,.val .bool] }
def yQ:aL:={ ps:=[.val (.sl bw),.val bw],bs:=[],rs:=[.own (.row 32 bw)] }
def HS:aL:={ ps:=[.val (.sl bw),.val bw,.val bw],bs:=[],rs:=[.own (.row 32 bw)] }
def HT:aL:={ ps:=[.val (.sl bw),.val bw],bs:=[],rs:=[.val bw,.val .bool] }
def ZH:aL:={ ps:=[.val dk,.val bw],bs:=[],rs:=[.val (.int .i64)] }
def HU:aL:={ ps:=[.val bw],bs:=[],rs:=[.val .bool] }
def qq:aL:={ ps:=[.ref,.val iJ],bs:=[.box 109 [.own (.row 48 eO),.own (.row 56 fM),.val (.sl dA)]],rs:=[.val (.int .i64),.val .bool] }
def Vu:aL:={ ps:=[],bs:=[],rs:=[],x:=some (OL 48 eO) }
def Vv:aL:={ ps:=[],bs:=[],rs:=[],x:=some (Th 48 eO) }
def yR:aL:={ ps:=[.ref,.val iJ],bs:=[.box 109 [.own (.row 48 eO),.own (.row 56 fM),.val (.sl dA)]],rs:=[.val (.int .i64)] }
def BB:aL:={ ps:=[.val iJ],bs:=[],rs:=[.val bw,.val bw] }
def HV:aL:={ ps:=[.val lP,.val SX],bs:=[],rs:=[.val SX,.val (.int .i64)] }
def BC:aL:={ ps:=[.val (.sl bw),.val bw,.val bw],bs:=[],rs:=[.own (.row 32 bw)] }
def BD:aL:={ ps:=[.val dk],bs:=[],rs:=[.val .bool] }
def nj:aL:={ ps:=[.ref,.val iJ],bs:=[.box 109 [.own (.row 48 eO),.own (.row 56 fM),.val (.sl dA)]],rs:=[.val (.int .i64),.val .bool] }
def BE:aL:={ ps:=[.ref,.val bw,.val bw],bs:=[.box 109 [.own (.row 48 eO),.own (.row 56 fM),.val (.sl dA)]],rs:=[] }
def BF:aL:={ ps:=[.ref,.val bw],bs:=[.box 109 [.own (.row 48 eO),.own (.row 56 fM),.val (.sl dA)]],rs:=[.val bw] }
def mw:aL:={ ps:=[.ref,.val bw],bs:=[.box 109 [.own (.row 48 eO),.own (.row 56 fM),.val (.sl dA)]],rs:=[.fg 0 [(0,5,0)]] }
def HW:aL:={ ps:=[.val (.sl bw),.val bw],bs:=[],rs:=[.own (.row 32 bw)] }
def Vw:aL:={ ps:=[],bs:=[],rs:=[],x:=some (Th 56 fM) }
def tJ:aL:={ ps:=[.val (.sl bw),.val bw,.val bw],bs:=[],rs:=[.own (.row 32 bw)] }
def oD:aL:={ ps:=[.val bw],bs:=[],rs:=[.val bw] }
def rp:aL:={ ps:=[.val (.sl bw)],bs:=[],rs:=[.own (.row 32 bw)] }
def HX:aL:={ ps:=[.ref,.val tH],bs:=[.box 109 [.own (.row 48 eO),.own (.row 56 fM),.val (.sl dA)]],rs:=[.fg 0 [(0,5,3),(1,4,2)],.fg 0 [(0,5,4),(1,4,3)]] }
def Eg:aL:={ ps:=[.val eO,.val iJ],bs:=[],rs:=[.val (.int .i64)] }
def BG:aL:={ ps:=[.val iJ,.val iJ],bs:=[],rs:=[.val (.int .i64)] }
def Vx:aL:={ ps:=[],bs:=[],rs:=[],x:=some (OL 56 fM) }
def HY:aL:={ ps:=[.val dk,.val iJ],bs:=[],rs:=[.val eO,.val .bool] }
def yS:aL:={ ps:=[.val lP,.val bw],bs:=[],rs:=[.val bw] }
def vH:aL:={ ps:=[.val (.sl bw),.val bw],bs:=[],rs:=[.val .bool] }
def my:aL:={ ps:=[.val (.sl bw),.val bw],bs:=[],rs:=[.val (.int .i64)] }
def oE:aL:={ ps:=[.val (.sl (.sl bw))],bs:=[],rs:=[.own (.row 32 bw)] }
def HZ:aL:={ ps:=[.val dk],bs:=[],rs:=[.val (.int .i64)] }
def Eh:aL:={ ps:=[.val fM,.val iJ],bs:=[],rs:=[.val (.int .i64)] }
def H3:aL:={ ps:=[.val (.sl dA),.val dA],bs:=[],rs:=[.own (.row 103 dA)] }
def Ei:aL:={ ps:=[.val (.sl bw),.val bw],bs:=[],rs:=[.val bw,.val .bool] }
def Ej:aL:={ ps:=[.val bw,.val bw],bs:=[],rs:=[.val (.int .i64)] }
def oF:aL:={ ps:=[.val (.sl (.sl bw))],bs:=[],rs:=[.own (.row 32 bw)] }
def vI:aL:={ ps:=[.val (.sl (.int .i64))],bs:=[],rs:=[.val (.int .i64)] }
def BH:aL:={ ps:=[.val (.int .i64),.val (.int .i64)],bs:=[],rs:=[.val (.int .i64)] }
def H4:aL:={ ps:=[.val eO],bs:=[],rs:=[.val iJ] }
def vJ:aL:={ ps:=[.val dk,.val bw],bs:=[],rs:=[.val iJ,.val .bool] }
def H5:aL:={ ps:=[.val (.sl dA),.val bw],bs:=[],rs:=[.val bw,.val .bool] }
def H6:aL:={ ps:=[.val dk],bs:=[],rs:=[.val (.int .i64),.val (.int .i64),.val (.int .i64),.val (.int .i64)] }
def Ek:aL:={ ps:=[.val dA,.val bw],bs:=[],rs:=[.val (.int .i64)] }
def Vy:aL:={ ps:=[],bs:=[],rs:=[],x:=some (OL 103 dA) }
def BI:aL:={ ps:=[.val (.sl bw),.val bw,.val (.int .i64)],bs:=[],rs:=[.val bw,.val .bool] }
def Vz:aL:={ ps:=[],bs:=[],rs:=[],x:=some (OM 32 bw) }
def BJ:aL:={ ps:=[.val (.int .i64)],bs:=[],rs:=[.val .bool] }
def H7:aL:={ ps:=[.val dA,.ref],bs:=[.box 32 [.val (.int .i64),.val (.int .i64),.val (.int .i64)]],rs:=[.val .bool] }
def H8:aL:={ ps:=[.val eO],bs:=[],rs:=[.val .bool] }
def yT:aL:={ ps:=[.val dk],bs:=[],rs:=[.own (.row 46 (.sl bw))] }
def yU:aL:={ ps:=[.val dk],bs:=[],rs:=[.val (.int .i64)] }
def vK:aL:={ ps:=[.val dk],bs:=[],rs:=[.own (.row 32 bw)] }
def VA:aL:={ ps:=[.val dk],bs:=[],rs:=[.own (.row 124 (.sl iJ))] }
def El:aL:={ ps:=[.val dk,.val bw],bs:=[],rs:=[.val bw,.val .bool] }
def iE:aL:={ ps:=[.val dk],bs:=[],rs:=[.own (.row 3 (.int .i64))] }
def yV:aL:={ ps:=[.val dk,.val bw],bs:=[],rs:=[.val bw,.val .bool] }
def H9:aL:={ ps:=[.own,.val (.int .i64),.val (.int .i64)],bs:=[.own (.row 3 (.int .i64))],rs:=[] }
def rq:aL:={ ps:=[.own,.val (.int .i64)],bs:=[.own (.row 3 (.int .i64))],rs:=[.val (.int .i64)] }
def Ia:aL:={ ps:=[.val (.sl bw),.val bw],bs:=[],rs:=[.val bw,.val .bool] }
def jH:aL:={ ps:=[.val (.sl eO),.val iJ,.GD 126 0],bs:=[],rs:=[.val (.int .i64),.val .bool] }
def jI:aL:={ ps:=[.val (.sl fM),.val iJ,.GD 138 0],bs:=[],rs:=[.val (.int .i64),.val .bool] }
def kR:aL:={ ps:=[.val (.sl bw),.GD 142 0],bs:=[],rs:=[.val bw] }
def kS:aL:={ ps:=[.val (.sl eO),.GD 150 0,.val iJ],bs:=[],rs:=[.val eO,.val .bool] }
def jJ:aL:={ ps:=[.val (.sl dA),.val bw,.GD 155 0],bs:=[],rs:=[.val (.int .i64),.val .bool] }
def jK:aL:={ ps:=[.val (.sl dA),.GD 163 1],bs:=[.box 32 [.val bw]],rs:=[.val (.int .i64)] }
def kT:aL:={ ps:=[.val (.sl eO),.GD 165 0],bs:=[],rs:=[.val (.int .i64)] }
def Ib:aL:={ ps:=[],bs:=[],rs:=[],x:=some Fw }
def Qa:aL:={ ps:=[],bs:=[],rs:=[] }
def sgs:List (Nat×aL):=[(3,sg3),(4,sg4),(5,YD),(6,sg6),(7,sg7),(8,sg8),(9,sg9),(10,aeD),(11,aeE),(12,PV),(13,aeF),(14,zo),(15,PW),(16,aeG),(17,HB),(18,kQ),(19,By),(20,rj),(21,xg),(22,Dt),(23,zp),(24,qB),(25,PX),(26,zq),(27,xh),(28,Fx),(29,Nk),(30,PY),(31,HC),(32,HD),(33,PZ),(34,Nl),(35,HE),(36,aeH),(37,P1),(38,Du),(39,aeI),(40,aeJ),(41,HF),(42,P2),(43,Dv),(44,HH),(45,Nm),(46,Fy),(47,pU),(48,P3),(49,P4),(50,P5),(51,zr),(52,Bz),(53,aeK),(54,Nn),(55,vG),(56,rk),(57,HI),(58,Ke),(59,Fz),(60,HJ),(61,Kf),(62,No),(63,aeL),(64,HK),(65,HL),(66,zt),(67,Np),(68,Nq),(69,HM),(70,Nr),(71,zu),(72,zw),(73,zx),(74,Ns),(75,Nt),(76,HN),(77,qC),(78,P6),(79,Nu),(80,Nv),(81,zy),(82,aeM),(83,aeN),(84,aeO),(85,HO),(86,rl),(87,Dx),(88,xi),(89,HP),(90,HQ),(91,P7),(92,oC),(93,BA),(94,zz),(95,rm),(96,P8),(97,P9),(98,HR),(99,Dy),(100,yP),(101,tI),(102,yQ),(103,HS),(104,HT),(105,ZH),(106,HU),(107,qq),(108,Vu),(109,Vv),(110,yR),(111,BB),(112,HV),(113,BC),(114,BD),(115,nj),(116,BE),(117,BF),(118,mw),(119,HW),(120,Vw),(121,tJ),(122,oD),(123,rp),(124,HX),(126,Eg),(127,BG),(130,Vx),(131,HY),(132,yS),(133,vH),(134,my),(135,oE),(136,HZ),(138,Eh),(139,H3),(140,Ei),(142,Ej),(143,oF),(144,vI),(145,BH),(150,H4),(151,vJ),(152,H5),(153,H6),(155,Ek),(156,Vy),(157,BI),(158,Vz),(159,BJ),(163,H7),(165,H8),(166,yT),(167,yU),(171,vK),(173,VA),(176,El),(177,iE),(179,yV),(180,H9),(181,rq),(182,Ia),(127125,jH),(139137,jI),(143141,kR),(151149,kS),(156154,jJ),(164162,jK),(166164,kT),(500060,Ib),(900074,Qa)]
def Sg(f:FuncId):Option aL:=(sgs.find? (fun p=>p.1==f)).map (fun p=>p.2)
def eqs:List (Nat×K):=[(30,iJ),(32,bw),(34,SX),(36,tH),(56,fM),(103,dA)]
def Eqs(t:TypeId):Option K:=(eqs.find? (fun p=>p.1==t)).map (fun p=>p.2)
def ZI:Shape:=⟨[(0,.sl (.one (.sl (.pair (.int .i64) (.pair (.pair (.int .i64) (.int .i64)) (.pair (.pair (.int .i64) (.int .i64)) (.pair (.pair (.int .i64) (.int .i64)) (.pair (.pair (.pair (.int .i64) (.int .i64)) (.pair (.pair (.int .i64) (.int .i64)) (.int .i64))) (.pair (.pair (.pair (.int .i64) (.int .i64)) (.pair (.pair (.int .i64) (.int .i64)) (.int .i64))) (.pair .bool (.pair .str (.int .i64)))))))))))),(3,.bool),(6,.int .i64)],[(.slot 4,20000,.box 28 [.val lP]),(.slot 5,20001,.box 28 [.val lP])],[],[]⟩
def WU:Shape:=⟨[(0,.sl (.one (.sl (.pair (.int .i64) (.pair (.pair (.int .i64) (.int .i64)) (.pair (.pair (.int .i64) (.int .i64)) (.pair (.pair (.int .i64) (.int .i64)) (.pair (.pair (.pair (.int .i64) (.int .i64)) (.pair (.pair (.int .i64) (.int .i64)) (.int .i64))) (.pair (.pair (.pair (.int .i64) (.int .i64)) (.pair (.pair (.int .i64) (.int .i64)) (.int .i64))) (.pair .bool (.pair .str (.int .i64)))))))))))),(3,.bool),(5,.int .i64)],[(.slot 4,20000,.box 28 [.val lP])],[],[]⟩
def WV:Shape:=⟨[(5,.bool),(8,.int .i64),(10,.int .i64),(11,.int .i64)],[(.slot 3,20000,.box 76 [.val uQ]),(.slot 6,20001,.box 28 [.val lP]),(.slot 7,20002,.box 28 [.val lP]),(.slot 9,20003,.box 28 [.val lP])],[],[]⟩
def BL:Shape:=⟨[(0,.sl (.one (.sl (.pair (.int .i64) (.pair (.pair (.int .i64) (.int .i64)) (.pair (.pair (.int .i64) (.int .i64)) (.pair (.pair (.int .i64) (.int .i64)) (.pair (.pair (.pair (.int .i64) (.int .i64)) (.pair (.pair (.int .i64) (.int .i64)) (.int .i64))) (.pair (.pair (.pair (.int .i64) (.int .i64)) (.pair (.pair (.int .i64) (.int .i64)) (.int .i64))) (.pair .bool (.pair .str (.int .i64)))))))))))),(4,.int .i64)],[(.slot 2,20000,.box 28 [.val lP]),(.slot 3,20001,.box 28 [.val lP])],[],[]⟩
def BM:Shape:=⟨[(6,.int .i64)],[(.slot 2,20000,.box 25 [.val dk]),(.slot 3,20001,.box 30 [.val iJ]),(.slot 4,20002,.box 48 [.val (.int .i64),.val (.int .i64),.own (.row 32 bw),.val .str,.val (.int .i64)])],[],[]⟩
def BN:Shape:=⟨[(6,.int .i64)],[(.slot 2,20000,.box 25 [.val dk]),(.slot 3,20001,.box 32 [.val bw]),(.slot 4,20002,.box 30 [.val iJ])],[],[]⟩
def BO:Shape:=⟨[(6,.int .i64)],[(.slot 2,20000,.box 25 [.val dk]),(.slot 3,20001,.box 30 [.val iJ]),(.slot 4,20002,.box 56 [.val fM])],[],[]⟩
def BP:Shape:=⟨[],[(.slot 2,20000,.box 25 [.val dk]),(.slot 3,20001,.box 32 [.val bw]),(.slot 6,20002,.box 32 [.val bw])],[(5,31000,(.row 32 (.pair (.pair (.int .i64) (.int .i64)) (.int .i64))))],[]⟩
def BQ:Shape:=⟨[(0,.sl (.pair (.pair (.int .i64) (.int .i64)) (.int .i64))),(5,.int .i64)],[(.slot 3,20000,.box 32 [.val bw])],[],[]⟩
def BR:Shape:=⟨[(5,.int .i64)],[(.slot 2,20000,.box 25 [.val dk]),(.slot 3,20001,.box 25 [.val dk])],[],[]⟩
def BS:Shape:=⟨[(9,.int .i64)],[(.slot 2,20000,.box 25 [.val dk]),(.slot 3,20001,.box 25 [.val dk])],[],[]⟩
def BT:Shape:=⟨[(0,.str),(3,.int .i64)],[],[],[]⟩
def xj:Shape:=⟨[(6,.int .i64)],[(.slot 1,20000,.box 25 [.val dk])],[(3,31000,(.row 46 (.sl (.pair (.pair (.int .i64) (.int .i64)) (.int .i64))))),(4,31001,(.row 32 (.pair (.pair (.int .i64) (.int .i64)) (.int .i64)))),(5,31002,(.row 32 (.pair (.pair (.int .i64) (.int .i64)) (.int .i64))))],[]⟩
def xk:Shape:=⟨[(4,.int .i64),(5,.int .i64)],[],[(3,31000,(.row 3 (.int .i64)))],[]⟩
def BU:Shape:=⟨[(7,.int .i64)],[(.slot 2,20000,.box 28 [.val lP]),(.slot 3,20001,.box 76 [.val uQ]),(.slot 4,20002,.box 28 [.own (.row 48 eO),.own (.row 56 fM),.own (.row 103 dA)])],[],[]⟩
def BV:Shape:=⟨[(4,.int .i64)],[(.slot 1,20000,.box 25 [.val dk]),(.slot 2,20001,.box 25 [.own (.row 48 eO),.own (.row 56 fM)]),(.slot 3,20002,.box 25 [.own (.row 48 eO),.own (.row 56 fM)])],[],[]⟩
def WW:Shape:=⟨[(0,.sl (.pair (.pair (.pair (.int .i64) (.int .i64)) (.int .i64)) (.pair (.pair (.int .i64) (.int .i64)) (.int .i64)))),(3,.int .i64)],[],[],[]⟩
def BW:Shape:=⟨[(3,.int .i64)],[(.slot 1,20000,.box 76 [.val uQ])],[],[]⟩
def FA:Shape:=⟨[(18,.sl (.pair (.int .i64) (.pair (.pair (.int .i64) (.int .i64)) (.pair (.pair (.int .i64) (.int .i64)) (.pair (.pair (.int .i64) (.int .i64)) (.pair (.pair (.pair (.int .i64) (.int .i64)) (.pair (.pair (.int .i64) (.int .i64)) (.int .i64))) (.pair (.pair (.pair (.int .i64) (.int .i64)) (.pair (.pair (.int .i64) (.int .i64)) (.int .i64))) (.pair .bool (.pair .str (.int .i64)))))))))),(19,.int .i64),(20,.int .i64)],[(.slot 4,20000,.box 28 [.own (.row 48 eO),.own (.row 56 fM),.own (.row 103 dA)]),(.slot 6,20001,.box 109 [.own (.row 48 eO),.own (.row 56 fM),.val (.sl dA)])],[],[]⟩
def uz:Shape:=⟨[(6,.bool),(7,.int .i64)],[(.slot 2,20000,.box 25 [.val dk]),(.slot 3,20001,.box 48 [.val eO]),(.slot 4,20002,.box 25 [.own (.row 48 eO),.own (.row 56 fM)]),(.slot 5,20003,.box 25 [.own (.row 48 eO),.val (.sl fM)])],[],[]⟩
def xl:Shape:=⟨[(8,.int .i64)],[(.slot 3,20000,.box 25 [.val dk]),(.slot 4,20001,.box 30 [.val iJ]),(.slot 5,20002,.box 30 [.val iJ]),(.slot 6,20003,.box 25 [.own (.row 48 eO),.own (.row 56 fM)]),(.slot 7,20004,.box 25 [.own (.row 48 eO),.own (.row 56 fM)])],[],[]⟩
def xm:Shape:=⟨[(9,.int .i64)],[(.slot 3,20000,.box 25 [.val dk]),(.slot 5,20001,.box 30 [.val iJ]),(.slot 6,20002,.box 25 [.own (.row 48 eO),.own (.row 56 fM)]),(.slot 7,20003,.box 25 [.own (.row 48 eO),.own (.row 56 fM)])],[],[]⟩
def mz:Shape:=⟨[(12,.sl (.pair (.pair (.pair (.int .i64) (.int .i64)) (.int .i64)) (.pair (.pair (.int .i64) (.int .i64)) (.int .i64)))),(13,.int .i64)],[(.slot 4,20000,.box 28 [.own (.row 48 eO),.own (.row 56 fM),.own (.row 103 dA)]),(.slot 8,20001,.box 32 [.val bw]),(.slot 9,20002,.box 32 [.val bw]),(.slot 10,20003,.box 32 [.val bw]),(.slot 11,20004,.box 25 [.val dk])],[],[]⟩
def rr:Shape:=⟨[(7,.bool),(8,.int .i64)],[(.slot 2,20000,.box 28 [.val lP]),(.slot 3,20001,.box 36 [.val tH]),(.slot 4,20002,.box 28 [.own (.row 48 eO),.own (.row 56 fM),.own (.row 103 dA)]),(.slot 6,20003,.box 25 [.own (.row 48 eO),.own (.row 56 fM)])],[],[]⟩
def ru:Shape:=⟨[(7,.bool),(9,.int .i64)],[(.slot 2,20000,.box 28 [.val lP]),(.slot 3,20001,.box 36 [.val tH]),(.slot 4,20002,.box 28 [.own (.row 48 eO),.own (.row 56 fM),.own (.row 103 dA)]),(.slot 6,20003,.box 25 [.own (.row 48 eO),.own (.row 56 fM)])],[],[]⟩
def WX:Shape:=⟨[(0,.sl (.pair (.pair (.pair (.int .i64) (.int .i64)) (.int .i64)) (.pair (.pair (.int .i64) (.int .i64)) (.int .i64)))),(1,.sl (.pair (.pair (.pair (.int .i64) (.int .i64)) (.int .i64)) (.pair (.pair (.int .i64) (.int .i64)) (.int .i64)))),(5,.int .i64)],[],[],[]⟩
def BX:Shape:=⟨[(5,.int .i64)],[(.slot 2,20000,.box 25 [.val dk]),(.slot 3,20001,.box 30 [.val iJ])],[],[]⟩
def BY:Shape:=⟨[(4,.int .i64)],[(.slot 1,20000,.box 25 [.val dk])],[(3,31000,(.row 3 (.int .i64)))],[]⟩
def xn:Shape:=⟨[(5,.int .i64)],[(.slot 1,20000,.box 25 [.val dk])],[(3,31000,(.row 3 (.int .i64)))],[]⟩
def rv:Shape:=⟨[(5,.int .i64),(6,.int .i64)],[(.slot 1,20000,.box 25 [.val dk])],[(3,31000,(.row 3 (.int .i64)))],[]⟩
def BZ:Shape:=⟨[(0,.sl (.pair (.pair (.int .i64) (.int .i64)) (.int .i64))),(1,.sl (.pair (.pair (.int .i64) (.int .i64)) (.int .i64))),(5,.int .i64)],[],[],[]⟩
def FB:Shape:=⟨[(17,.sl (.pair (.int .i64) (.pair (.pair (.int .i64) (.int .i64)) (.pair (.pair (.int .i64) (.int .i64)) (.pair (.pair (.int .i64) (.int .i64)) (.pair (.pair (.pair (.int .i64) (.int .i64)) (.pair (.pair (.int .i64) (.int .i64)) (.int .i64))) (.pair (.pair (.pair (.int .i64) (.int .i64)) (.pair (.pair (.int .i64) (.int .i64)) (.int .i64))) (.pair .bool (.pair .str (.int .i64)))))))))),(18,.int .i64),(19,.int .i64)],[],[],[]⟩
def B2:Shape:=⟨[(4,.int .i64)],[(.slot 1,20000,.box 25 [.val dk])],[(3,31000,(.row 32 (.pair (.pair (.int .i64) (.int .i64)) (.int .i64))))],[]⟩
def B3:Shape:=⟨[(14,.int .i64),(15,.int .i64)],[(.slot 2,20000,.box 25 [.own (.row 48 eO),.own (.row 56 fM)]),(.slot 3,20001,.box 25 [.own (.row 48 eO),.own (.row 56 fM)])],[],[]⟩
def uA:Shape:=⟨[(6,.bool),(7,.int .i64)],[(.slot 2,20000,.box 25 [.val dk]),(.slot 3,20001,.box 56 [.val fM]),(.slot 4,20002,.box 25 [.own (.row 48 eO),.own (.row 56 fM)]),(.slot 5,20003,.box 25 [.val (.sl eO),.own (.row 56 fM)])],[],[]⟩
def ll:Shape:=⟨[(0,.sl (.pair (.pair (.pair (.int .i64) (.int .i64)) (.int .i64)) (.pair (.pair (.int .i64) (.int .i64)) (.int .i64)))),(8,.bool),(9,.int .i64)],[(.slot 3,20000,.box 103 [.val dA])],[(7,31000,(.row 103 (.pair (.pair (.pair (.int .i64) (.int .i64)) (.int .i64)) (.pair (.pair (.int .i64) (.int .i64)) (.int .i64)))))],[]⟩
def xp:Shape:=⟨[(0,.sl (.pair (.pair (.int .i64) (.int .i64)) (.int .i64))),(3,.int .i64),(4,.int .i64)],[],[],[]⟩
def B4:Shape:=⟨[(0,.sl (.pair (.pair (.int .i64) (.int .i64)) (.int .i64))),(3,.int .i64),(6,.int .i64)],[],[(5,31000,(.row 32 (.pair (.pair (.int .i64) (.int .i64)) (.int .i64))))],[]⟩
def WY:Shape:=⟨[(4,.int .i64)],[(.slot 1,20000,.box 25 [.val dk])],[(3,31000,(.row 30 (.pair (.int .i64) (.int .i64))))],[]⟩
def WZ:Shape:=⟨[(5,.int .i64)],[(.slot 1,20000,.box 25 [.val dk])],[(3,31000,(.row 30 (.pair (.int .i64) (.int .i64))))],[]⟩
def W0:Shape:=⟨[(0,.sl (.pair (.int .i64) (.int .i64))),(3,.int .i64)],[],[],[]⟩
def W9:Shape:=⟨[(3,.int .i64)],[(.slot 1,20000,.box 25 [.val dk])],[],[]⟩
def Xa:Shape:=⟨[(3,.int .i64),(4,.sl (.pair (.pair (.int .i64) (.int .i64)) (.int .i64))),(6,.int .i64)],[(.slot 1,20000,.box 25 [.val dk])],[],[]⟩
def Xb:Shape:=⟨[(9,.int .i64)],[(.slot 1,20000,.box 25 [.val dk])],[],[]⟩
def Xc:Shape:=⟨[(9,.int .i64),(10,.int .i64)],[(.slot 1,20000,.box 25 [.val dk])],[],[]⟩
def xq:Shape:=⟨[(6,.int .i64),(7,.int .i64)],[(.slot 1,20000,.box 25 [.val dk])],[],[]⟩
def xt:Shape:=⟨[(0,.str)],[],[(6,31000,.n6)],[]⟩
def mA:Shape:=⟨[(48,.int .i64),(49,.int .i64)],[(.slot 0,1000,.box 109 [.own (.row 48 eO),.own (.row 56 fM),.val (.sl dA)]),(.slot 5,20001,.box 28 [.val lP]),(.slot 7,20002,.box 32 [.val bw])],[(9,31000,(.row 32 (.pair (.pair (.int .i64) (.int .i64)) (.int .i64)))),(47,31001,(.row 34 (.pair (.pair (.int .i64) (.int .i64)) (.pair (.pair (.int .i64) (.int .i64)) (.int .i64)))))],[]⟩
def FC:Shape:=⟨[(5,.int .i64),(32,.int .i64),(33,.int .i64)],[(.slot 0,1000,.box 109 [.own (.row 48 eO),.own (.row 56 fM),.val (.sl dA)]),(.slot 7,20001,.box 32 [.val bw]),(.slot 8,20002,.box 32 [.val bw])],[(31,31000,(.row 32 (.pair (.pair (.int .i64) (.int .i64)) (.int .i64))))],[]⟩
def xu:Shape:=⟨[(5,.int .i64),(47,.int .i64),(48,.int .i64)],[(.slot 0,1000,.box 109 [.own (.row 48 eO),.own (.row 56 fM),.val (.sl dA)])],[(46,31000,(.row 32 (.pair (.pair (.int .i64) (.int .i64)) (.int .i64))))],[]⟩
def nO:Shape:=⟨[(113,.int .i64)],[(.slot 0,1000,.box 109 [.own (.row 48 eO),.own (.row 56 fM),.val (.sl dA)]),(.slot 8,20001,.box 32 [.val bw]),(.slot 9,20002,.box 32 [.val bw]),(.slot 10,20003,.box 32 [.val bw])],[],[]⟩
def B5:Shape:=⟨[(5,.int .i64)],[(.slot 2,20000,.box 28 [.val lP]),(.slot 3,20001,.box 32 [.val bw]),(.slot 4,20002,.box 32 [.val bw])],[],[]⟩
def xw:Shape:=⟨[(2,.sl (.pair (.pair (.int .i64) (.int .i64)) (.int .i64))),(8,.int .i64)],[(.slot 4,20000,.box 30 [.val iJ]),(.slot 6,20001,.box 25 [.own (.row 48 eO),.own (.row 56 fM)]),(.slot 7,20002,.box 25 [.own (.row 48 eO),.own (.row 56 fM)])],[],[]⟩
def sG:Shape:=⟨[(0,.sl (.pair (.pair (.int .i64) (.int .i64)) (.int .i64))),(7,.int .i64),(9,.int .i64)],[(.slot 5,20000,.box 32 [.val bw])],[(8,31000,(.row 32 (.pair (.pair (.int .i64) (.int .i64)) (.int .i64))))],[]⟩
def vL:Shape:=⟨[(0,.sl (.pair (.pair (.pair (.int .i64) (.int .i64)) (.int .i64)) (.pair (.pair (.int .i64) (.int .i64)) (.int .i64)))),(6,.int .i64)],[(.slot 3,20000,.box 32 [.val bw]),(.slot 4,20001,.box 32 [.val bw])],[],[]⟩
def sH:Shape:=⟨[(0,.sl (.pair (.pair (.int .i64) (.int .i64)) (.int .i64))),(6,.int .i64)],[(.slot 3,20000,.box 32 [.val bw])],[(5,31000,(.row 32 (.pair (.pair (.int .i64) (.int .i64)) (.int .i64))))],[]⟩
def TQ:Shape:=⟨[(5,.int .i64),(6,.int .i64)],[(.slot 2,20000,.box 25 [.val dk]),(.slot 3,20001,.box 32 [.val bw])],[],[]⟩
def TR:Shape:=⟨[(5,.int .i64),(6,.int .i64),(7,.int .i64)],[(.slot 2,20000,.box 25 [.val dk]),(.slot 3,20001,.box 32 [.val bw])],[],[]⟩
def Ac:Shape:=⟨[(7,.int .i64)],[(.slot 0,1000,.box 109 [.own (.row 48 eO),.own (.row 56 fM),.val (.sl dA)]),(.slot 3,20001,.box 32 [.val bw]),(.slot 4,20002,.box 32 [.val bw]),(.slot 5,20003,.box 32 [.val bw])],[],[]⟩
def vM:Shape:=⟨[(12,.int .i64),(13,.int .i64)],[(.slot 0,1000,.box 109 [.own (.row 48 eO),.own (.row 56 fM),.val (.sl dA)]),(.slot 3,20001,.box 32 [.val bw])],[],[]⟩
def vN:Shape:=⟨[(12,.int .i64),(13,.int .i64)],[(.slot 2,20000,.box 28 [.val lP]),(.slot 3,20001,.box 32 [.val bw]),(.slot 4,20002,.box 32 [.val bw])],[],[]⟩
def vO:Shape:=⟨[(0,.sl (.pair (.pair (.int .i64) (.int .i64)) (.int .i64))),(7,.int .i64),(8,.int .i64)],[(.slot 3,20000,.box 32 [.val bw])],[],[]⟩
def vR:Shape:=⟨[(0,.sl (.sl (.pair (.pair (.int .i64) (.int .i64)) (.int .i64)))),(3,.int .i64),(9,.sl (.sl (.pair (.pair (.int .i64) (.int .i64)) (.int .i64)))),(10,.int .i64),(11,.int .i64)],[],[],[]⟩
def vS:Shape:=⟨[(25,.sl (.sl (.pair (.pair (.int .i64) (.int .i64)) (.int .i64)))),(26,.int .i64),(27,.int .i64)],[],[(6,31000,(.row 32 (.pair (.pair (.int .i64) (.int .i64)) (.int .i64))))],[]⟩
def Ad:Shape:=⟨[(3,.int .i64),(6,.sl (.int .i64)),(7,.int .i64),(8,.int .i64)],[],[],[]⟩
def vT:Shape:=⟨[(9,.sl (.pair (.pair (.int .i64) (.int .i64)) (.pair (.sl (.pair (.pair (.int .i64) (.int .i64)) (.int .i64))) (.pair .str (.int .i64))))),(10,.int .i64),(11,.int .i64)],[(.slot 3,20000,.box 32 [.val bw]),(.slot 4,20001,.box 30 [.val iJ])],[],[]⟩
def TS:Shape:=⟨[(12,.int .i64),(13,.int .i64)],[(.slot 1,20000,.box 25 [.val dk]),(.slot 4,20001,.box 183 [.own (.map bw .bool)])],[(3,31000,(.row 46 (.sl bw))),(11,31001,(.row 32 (.pair (.pair (.int .i64) (.int .i64)) (.int .i64))))],[]⟩
def vU:Shape:=⟨[(8,.sl (.pair (.pair (.int .i64) (.int .i64)) (.pair .str (.int .i64)))),(9,.int .i64),(10,.int .i64)],[],[(3,31000,(.row 32 bw))],[]⟩
def TT:Shape:=⟨[(11,.int .i64),(12,.int .i64)],[(.slot 1,20000,.box 25 [.val dk])],[(3,31000,(.map (.int .i64) (.int .i64))),(4,31001,(.row 124 (.sl iJ))),(10,31002,(.row 3 (.int .i64)))],[]⟩
def sI:Shape:=⟨[(18,.sl (.pair (.pair (.int .i64) (.int .i64)) (.pair (.sl (.pair (.pair (.int .i64) (.int .i64)) (.int .i64))) (.pair .str (.int .i64))))),(19,.int .i64),(20,.int .i64)],[],[(3,31000,(.row 3 (.int .i64))),(4,31001,(.map (.pair (.pair (.int .i64) (.int .i64)) (.int .i64)) (.int .i64)))],[]⟩
def vW:Shape:=⟨[(5,.int .i64),(18,.sl (.pair (.pair (.int .i64) (.int .i64)) (.pair (.sl (.pair (.pair (.int .i64) (.int .i64)) (.int .i64))) (.pair .str (.int .i64))))),(19,.int .i64),(20,.int .i64),(30,.sl (.pair (.pair (.int .i64) (.int .i64)) (.int .i64))),(31,.int .i64),(32,.int .i64)],[],[(3,31000,(.row 3 (.int .i64))),(4,31001,(.map (.pair (.pair (.int .i64) (.int .i64)) (.int .i64)) (.int .i64)))],[]⟩
def pV:Shape:=⟨[(4,.mp (.pair (.pair (.int .i64) (.int .i64)) (.int .i64)) (.int .i64))],[],[(3,31000,(.row 3 (.int .i64))),(42,31001,(.iter (.pair (.pair (.int .i64) (.int .i64)) (.int .i64)) (.int .i64)))],[]⟩
def vX:Shape:=⟨[(61,.int .i64),(62,.int .i64)],[],[(3,31000,(.row 3 (.int .i64))),(13,31001,(.row 3 (.int .i64)))],[]⟩
def vY:Shape:=⟨[(11,.sl (.pair (.pair (.int .i64) (.int .i64)) (.pair (.sl (.pair (.pair (.int .i64) (.int .i64)) (.int .i64))) (.pair .str (.int .i64))))),(12,.int .i64),(13,.int .i64)],[(.slot 3,20000,.box 32 [.val bw]),(.slot 4,20001,.box 32 [.val bw])],[],[]⟩
def sJ:Shape:=⟨[(1,.int .i64)],[],[(0,1000,(.row 3 (.int .i64)))],[]⟩
def iX:Shape:=⟨[(0,.sl (.pair (.pair (.int .i64) (.int .i64)) (.pair (.sl (.pair (.pair (.int .i64) (.int .i64)) (.int .i64))) (.pair .str (.int .i64))))),(8,.int .i64),(9,.int .i64),(10,.int .i64)],[(.slot 4,20000,.box 30 [.val iJ])],[],[(2,126,[])]⟩
def iY:Shape:=⟨[(0,.sl (.pair (.pair (.int .i64) (.int .i64)) (.pair .str (.int .i64)))),(8,.int .i64),(9,.int .i64),(10,.int .i64)],[(.slot 4,20000,.box 30 [.val iJ])],[],[(2,138,[])]⟩
def kf:Shape:=⟨[(0,.sl (.pair (.pair (.int .i64) (.int .i64)) (.int .i64))),(6,.int .i64)],[(.slot 4,20000,.box 32 [.val bw]),(.slot 5,20001,.box 32 [.val bw])],[],[(1,142,[])]⟩
def mB:Shape:=⟨[(11,.sl (.pair (.pair (.int .i64) (.int .i64)) (.pair (.sl (.pair (.pair (.int .i64) (.int .i64)) (.int .i64))) (.pair .str (.int .i64))))),(12,.int .i64),(13,.int .i64)],[(.slot 5,20000,.box 30 [.val iJ]),(.slot 6,20001,.box 48 [.val (.int .i64),.val (.int .i64),.own (.row 32 bw),.val .str,.val (.int .i64)])],[],[(1,150,[])]⟩
def iZ:Shape:=⟨[(0,.sl (.pair (.pair (.pair (.int .i64) (.int .i64)) (.int .i64)) (.pair (.pair (.int .i64) (.int .i64)) (.int .i64)))),(8,.int .i64),(9,.int .i64),(10,.int .i64)],[(.slot 4,20000,.box 32 [.val bw])],[],[(2,155,[])]⟩
def kg:Shape:=⟨[(0,.sl (.pair (.pair (.pair (.int .i64) (.int .i64)) (.int .i64)) (.pair (.pair (.int .i64) (.int .i64)) (.int .i64)))),(7,.int .i64),(8,.int .i64)],[(.cap 1 0,1000,.box 32 [.val bw])],[],[(1,163,[1000])]⟩
def kh:Shape:=⟨[(5,.int .i64),(8,.sl (.pair (.pair (.int .i64) (.int .i64)) (.pair (.sl (.pair (.pair (.int .i64) (.int .i64)) (.int .i64))) (.pair .str (.int .i64))))),(9,.int .i64),(10,.int .i64)],[],[],[(1,165,[])]⟩
def Xd:Shape:=⟨[(4,.int .i64),(7,.bool),(8,.bool),(9,.int .i64)],[(.slot 1,20000,.box 25 [.val dk])],[],[]⟩
def Xe:Shape:=⟨[(7,.bool),(8,.bool),(10,.int .i64)],[(.slot 1,20000,.box 25 [.val dk])],[],[]⟩
def ans:List (Nat×List (Nat×Shape)):=[(63,[(12,Xd),(17,Xe)]),(9,[(5,ZI)]),(10,[(4,WU)]),(11,[(8,WV)]),(17,[(3,BL)]),(18,[(2,BM)]),(20,[(2,BN)]),(21,[(2,BO)]),(22,[(6,BP)]),(24,[(2,BQ)]),(27,[(4,BR),(12,BS)]),(28,[(2,BT)]),(31,[(5,xj)]),(32,[(4,xk)]),(35,[(5,BU)]),(38,[(3,BV)]),(39,[(2,WW)]),(41,[(4,BW)]),(44,[(3,FA)]),(46,[(4,uz)]),(47,[(3,xl),(8,xm)]),(51,[(18,mz)]),(52,[(4,rr),(12,ru)]),(53,[(4,WX)]),(55,[(2,BX)]),(56,[(3,BY),(7,xn),(10,rv)]),(57,[(4,BZ)]),(58,[(4,FB)]),(59,[(3,B2)]),(60,[(3,B3)]),(71,[(4,uA)]),(73,[(7,ll)]),(77,[(3,xp),(9,B4)]),(82,[(3,WY),(7,WZ)]),(83,[(2,W0)]),(84,[(2,W9),(9,Xa),(15,Xb),(18,Xc)]),(85,[(3,xq)]),(88,[(2,xt)]),(92,[(8,mA)]),(93,[(6,FC),(11,xu)]),(95,[(19,nO)]),(98,[(2,B5)]),(99,[(3,xw)]),(100,[(6,sG)]),(101,[(2,vL)]),(102,[(3,sH)]),(105,[(3,TQ),(6,TR)]),(117,[(3,Ac)]),(118,[(2,vM)]),(132,[(2,vN)]),(134,[(2,vO)]),(143,[(3,vR),(11,vS)]),(144,[(3,Ad)]),(151,[(2,vT)]),(166,[(4,TS)]),(171,[(3,vU)]),(173,[(4,TT)]),(177,[(4,sI),(8,vW),(14,pV),(21,vX)]),(179,[(2,vY)]),(181,[(1,sJ)]),(127125,[(3,iX)]),(139137,[(3,iY)]),(143141,[(5,kf)]),(151149,[(2,mB)]),(156154,[(3,iZ)]),(164162,[(2,kg)]),(166164,[(3,kh)])]
def An(f:FuncId)(key:Nat):Option Shape:=(ans.find? (fun p=>p.1==f)).bind fun p=>(p.2.find? (fun q=>q.1==key)).map (fun q=>q.2)
abbrev JT(g:aL):=(sh:Shape)→List Item→sh.T→Option g.B
noncomputable def cp(f:FuncId)(g:aL)(fn:Func)(F:FT)(J:JT g)(x:g.A):Option g.B:=aC Tryz.prog Eqs Sg F fn.ntmps (An f) J (qU Tryz.prog g fn) fuel [.code (fn.body.getD .skip)] (entry g x)
noncomputable def ib(f j:Nat)(g:aL)(fn:Func)(sh:Shape)(F:FT)(J:JT g)(x:sh.T):Option g.B:=aC Tryz.prog Eqs Sg F fn.ntmps (An f) J (qU Tryz.prog g fn) fuel (round (aY Tryz.prog (f%1000) j)) (au sh x)
end Go.Vs
namespace Go.Vs
open Go.Proofs
variable {G:(f:FuncId)→(g:aL)→Option (g.A→Option g.B)}
noncomputable abbrev FX(G:(f:FuncId)→(g:aL)→Option (g.A→Option g.B)):FT:=Fix Tryz.prog Eqs Sg An G
noncomputable abbrev LX(G:(f:FuncId)→(g:aL)→Option (g.A→Option g.B))(f:FuncId)(g:aL)(fn:Func):JT g:=Lp Tryz.prog Eqs Sg An G f g fn
abbrev HG(G:(f:FuncId)→(g:aL)→Option (g.A→Option g.B)):Prop:=∀f g,(f==166 || f==167)=false→G f g=none
theorem aA{f:FuncId}{g:aL}{fn:Func}{x:g.A}{y:g.B}(hG:G f g=none)(hb:body Tryz.prog (f%1000)=some (fn,fn.body.getD .skip))(hc:(decide (g.ps.length≤fn.ntmps)&&decide (g.bs.length≤8))=true)
  (h:cp f g fn (FX G) (LX G f g fn) x=some y):FX G f g x=some y:=Lt hG hb hc h
theorem aB{f j:Nat}{g:aL}{fn:Func}{sh:Shape}{x:sh.T}{y:g.B}(hs:(match aY Tryz.prog (f%1000) j with | .inLoop _::_=>true|_=>false)=true)
  (h:ib f j g fn sh (FX G) (LX G f g fn) x=some y):LX G f g fn sh (aY Tryz.prog (f%1000) j) x=some y:=by
 unfold ib at h
 generalize aY Tryz.prog (f%1000) j=s at hs h ⊢
 split at hs
 ·exact PU h
 ·cases hs
abbrev aaN:=(Int×Unit)
abbrev aaO:=(ab×Unit)
abbrev aaP:=((List ag)×((List ah)×Unit))
abbrev aaS:=((ai×Unit)×Unit)
abbrev aaT:=(Int×aaN)
abbrev aaU:=(ID×Unit)
abbrev abC:=((List ab)×Unit)
abbrev abE:=(aaO×Unit)
abbrev abH:=(((List ab)×aaO)×Unit)
abbrev abI:=(bL×Unit)
abbrev abJ:=(aF×Unit)
abbrev abP:=((List Int)×Unit)
abbrev abW:=((ai×aaO)×Unit)
abbrev ab1:=((List bL)×Unit)
abbrev ab3:=((StateT×abI)×Unit)
abbrev ab5:=(ai×Unit)
abbrev ab6:=(aaP×(aaP×Unit))
abbrev ab7:=(StateT×Unit)
abbrev ab9:=(((List ab)×(ab×aaO))×Unit)
abbrev aca:=(Unit×Unit)
abbrev acb:=(aaO×abE)
abbrev acg:=(aaU×Unit)
abbrev acE:=((StateT×ab1)×Unit)
abbrev acK:=(aaU×((Int×(Int×((List ab)×(ByteArray×aaN))))×Unit))
abbrev acL:=((List ab)×aaN)
abbrev acM:=(abI×abJ)
abbrev acN:=((List ab)×aaT)
abbrev acP:=((List ag)×aaT)
end Go.Vs
