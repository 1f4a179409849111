/- The value semantics is sound for whole functions; the signatures of the program. -/
import Derived.Test.YtpkfpbpbkabkdaaGreatEngineC
import Derived.Scope
import Derived.Test.YtpkfpbpbkabkdaaGreatProg
import Derived.KernelRfl
set_option linter.unusedSimpArgs false
set_option linter.unusedVariables false
namespace Go.Vs
variable {P:Program} {Eqs:TypeId→Option K} {Sg:FuncId→Option aN} {F:(f:FuncId)→(g:aN)→g.A→Option g.B} {R:Type}
variable {Z Z' Z0:Nat→Prop} {ψ ψ' ψ0:Nat→Value} {h h':Hp} {w w' w0:World} {B0:Nat} {O N:Nat→Prop}
def fw(st:St):(l:List (Nat×Nat×OK))→Jy (l.map (·.2.2))→List yc
 |[],_=>[]
 |(s,id,ok)::r,x=>(id,(oX (look st.tmps s)).head?,.own ok x.1)::fw st r x.2
theorem u7(st:St):∀(l:List (Nat×Nat×OK)) (x:Jy (l.map (·.2.2))),dD (fw st l x)=qM l x
 |[],_=>rfl
 |(s,id,ok)::r,x=>by simp only[fw,qM];rw[←u7 st r x.2];rfl
theorem s8(st:St):∀(l:List (Nat×Nat×OK)) (x:Jy (l.map (·.2.2))),(fw st l x).map (·.1)=l.map (·.2.1)
 |[],_=>rfl
 |(s,id,ok)::r,x=>by simp only[fw,List.map_cons];rw[s8 st r x.2]
theorem yr(st:St):∀(l:List (Nat×Nat×OK)) (x:Jy (l.map (·.2.2))),(fw st l x).filterMap (·.2.1)=l.flatMap fun p=>oX (look st.tmps p.1)
 |[],_=>rfl
 |(s,id,ok)::r,x=>by
  simp only[fw,List.flatMap_cons]
  rw[dQ,yr st r x.2]
  simp only[]
  rw[wE]
theorem qZ{st:St}{s id:Nat}{ok:OK}{r:List (Nat×Nat×OK)}{x:Jy (((s,id,ok)::r).map (·.2.2))}(hd:nm st ((s,id,ok)::r)=some x):dS st.heap ok (look st.tmps s)=some x.1∧nm st r=some x.2:=by
 have e:nm st ((s,id,ok)::r)=(match dS st.heap ok (look st.tmps s),nm st r with
  |some x,some y=>some ((x,y):ok.T×Jy (r.map (·.2.2)))
  |_,_=>none):=rfl
 rw[e]at hd
 clear e
 generalize dS st.heap ok (look st.tmps s)=o1 at hd ⊢
 generalize nm st r=o2 at hd ⊢
 cases o1 with
 |none=>cases hd
 |some x1 =>
  cases o2 with
  |none=>cases hd
  |some y1=>have:=Option.some.inj hd;subst this;exact⟨rfl,rfl⟩
theorem Bb{hd:Hp}{st:St}:∀(l:List (Nat×Nat×OK)) (x:Jy (l.map (·.2.2))),nm st l=some x→(∀s∈(l.flatMap fun p=>oX (look st.tmps p.1)),hd s=st.heap.get s) →
  ∀e∈fw st l x,uT Z ψ hd w h' ψ' e
 |[],_,_,_,e,he=>by simp[fw]at he
 |(s,id,ok)::r,x,hx,hk,e,he=>by
  obtain⟨h1,h2⟩:=qZ hx
  simp only[List.flatMap_cons]at hk
  simp only[fw]at he
  rcases List.mem_cons.1 he with rfl|he
  ·exact Lo h1 fun s hs=>hk s (List.mem_append_left _ hs)
  ·exact Bb r x.2 h2 (fun s hs=>hk s (List.mem_append_right _ hs)) e he
theorem Hc{st:St}{s:Nat}{k:K}{r:List (Nat×K)}{x:Gp (((s,k)::r).map (·.2))}(hd:qK st ((s,k)::r)=some x):fT k st.heap (look st.tmps s)=some x.1∧qK st r=some x.2:=by
 have e:qK st ((s,k)::r)=(match fT k st.heap (look st.tmps s),qK st r with
  |some x,some y=>some ((x,y):k.T×Gp (r.map (·.2)))
  |_,_=>none):=rfl
 rw[e]at hd
 clear e
 generalize fT k st.heap (look st.tmps s)=o1 at hd ⊢
 generalize qK st r=o2 at hd ⊢
 cases o1 with
 |none=>cases hd
 |some x1 =>
  cases o2 with
  |none=>cases hd
  |some y1=>have:=Option.some.inj hd;subst this;exact⟨rfl,rfl⟩
theorem eY{T:List (Nat×AV)}{n:Nat}{a:Act}(eW:∀p∈T,az Z ψ h w p.2 (a.tmps.getD p.1 undef))(hs:a.tmps.size=n)(hd:a.defers=[]):cP Z ψ h w n (look T) a:=by
 refine⟨fun d=>?_,hs,hd⟩
 induction T with
 |nil=>simp only[look,az]
 |cons p r ih =>
  obtain⟨i,v⟩:=p
  simp only[look]
  split
  ·rename_i e;subst e;exact eW _ List.mem_cons_self
  ·exact ih fun p hp=>eW p (List.mem_cons_of_mem _ hp)
section
variable {st:St} {n:Nat} {a:Act}
theorem u9(g:Good Z ψ st.heap.get w B0 O)(t:cP Z ψ st.heap.get w n (look st.tmps) a)(hz:∀b,Z b→Z' b):∀(l:List (Nat×K)) (x:Gp (l.map (·.2))),qK st l=some x →
  (∀id b,AV.bH id∈(l.flatMap fun p=>(look st.tmps p.1).cells)→st.heap.get id≠none→ob (ψ id)=some b→Z' b)→∀p∈qL l x,az Z' ψ' h' w p.2 (a.tmps.getD p.1 undef)
 |[],_,_,_,p,hp=>by simp[qL]at hp
 |(s,k)::r,x,hx,hf,p,hp=>by
  obtain⟨h1,h2⟩:=Hc hx
  simp only[List.flatMap_cons]at hf
  simp only[qL]at hp
  rcases List.mem_cons.1 hp with rfl|hp
  ·exact rQ g hz (fun id b bO=>hf id b (List.mem_append_left _ bO)) h1 (t.rep s)
  ·exact u9 g t hz r x.2 h2 (fun id b bO=>hf id b (List.mem_append_right _ bO)) p hp
theorem ta(t:cP Z ψ st.heap.get w n (look st.tmps) a):∀(l:List (Src×Nat×BK)) (ids:List Nat),EM st l=some ids→(∀i∈ids,st.heap.get i≠none) →
  (∀p∈ids.zip (l.map (·.2.1)),h' p.2≠none→ψ' p.2=ψ p.1)→∀p∈jL l,az Z' ψ' h' w p.2 (a.tmps.getD p.1 undef)
 |[],_,_,_,_,p,hp=>by simp[jL]at hp
 |(src,mC,b)::r,ids,hx,hi,jg,p,hp=>by
  simp only[EM]at hx
  split at hx
  ·rename_i i is h1 h2
   cases hx
   simp only[List.map_cons,List.zip_cons_cons]at jg
   have ih:=ta t r is h2 (fun j hj=>hi j (List.mem_cons_of_mem _ hj)) (fun p hp=>jg p (List.mem_cons_of_mem _ hp)) p
   cases src with
   |slot s =>
    simp only[jL]at hp
    rcases List.mem_cons.1 hp with rfl|hp
    ·simp only[VI]at h1
     obtain⟨sz,h3⟩:=pn h1
     have h4:=t.rep s
     rw[h3]at h4
     exact zw h4 (hi i List.mem_cons_self) (jg (i,mC) List.mem_cons_self)
    ·exact ih hp
   |cap s j=>exact ih (by simpa only[jL] using hp)
  ·cases hx
theorem Hd{hh:Heap}{ids:List (Nat×Nat)}(hi:∀p∈ids,hh.get p.1≠none)(jg:∀p∈ids,h' p.2≠none→ψ' p.2=ψ p.1):∀(cap:List AV) (is CX:List Nat) (vs:List Value),jJ cap=some is →
  is.map (fun i=>(ids.find? (·.1==i)).map (·.2))=CX.map some→an Z ψ hh.get w cap vs→an Z' ψ' h' w (CX.map fun i=>.ref i 0 0 0) vs
 |[],is,CX,vs,h1,h2,hr=>by
  simp only[jJ]at h1
  cases h1
  cases CX with
  |nil=>simpa only[List.map_nil,an] using hr
  |cons c r=>simp at h2
 |v::cap,is,CX,vs,h1,h2,hr=>by
  simp only[jJ]at h1
  split at h1
  ·rename_i i is' h3 h4
   cases h1
   cases CX with
   |nil=>simp at h2
   |cons c r =>
    simp only[List.map_cons,List.cons.injEq]at h2
    obtain⟨h5,h6⟩:=h2
    simp only[List.map_cons,an]at hr ⊢
    obtain⟨u,us,rfl,h7,h8⟩:=hr
    obtain⟨sz,rfl⟩:=pn h3
    cases hf:ids.find? (·.1==i) with
    |none=>rw[hf]at h5;cases h5
    |some p =>
     rw[hf]at h5
     have hm:=List.mem_of_find?_eq_some hf
     have he:=List.find?_some hf
     simp only[Option.map_some,Option.some.injEq]at h5
     have Xb:p.1=i:=by simpa using he
     refine⟨u,us,rfl,zw h7 (by rw[←Xb];exact hi p hm) (fun hn=>?_),Hd hi jg cap is' r us h4 h6 h8⟩
     rw[←h5,←Xb];exact jg p hm (by rw[h5];exact hn)
  ·cases h1
theorem yu(t:cP Z ψ st.heap.get w n (look st.tmps) a){ids:List (Nat×Nat)}(hi:∀p∈ids,st.heap.get p.1≠none)(jg:∀p∈ids,h' p.2≠none→ψ' p.2=ψ p.1):∀(l:List (Nat×FuncId×List Nat)),Lk st ids l=true →
  ∀p∈zn l,az Z' ψ' h' w p.2 (a.tmps.getD p.1 undef)
 |[],_,p,hp=>by simp[zn]at hp
 |(s,f,CX)::r,hx,p,hp=>by
  simp only[Lk,Bool.and_eq_true]at hx
  simp only[zn,List.map_cons]at hp
  rcases List.mem_cons.1 hp with rfl|hp
  ·have h1:=hx.1
   split at h1
   ·rename_i f' cap hl
    simp only[Bool.and_eq_true,decide_eq_true_eq]at h1
    obtain⟨rfl,h2⟩:=h1
    split at h2
    ·rename_i is hri
     have h4:=t.rep s
     rw[hl]at h4
     simp only[az]at h4 ⊢
     obtain⟨vs,h5,h6⟩:=h4
     exact⟨vs,h5,Hd hi jg cap is CX _ hri (of_decide_eq_true h2) h6⟩
    ·cases h2
   ·cases h1
  ·exact yu t hi jg r hx.2 p hp
theorem vc(t:cP Z ψ st.heap.get w n (look st.tmps) a):∀(l:List (Nat×Nat×OK)) (x:Jy (l.map (·.2.2))),nm st l=some x→(∀e∈fw st l x,h' e.1≠none→ψ' e.1=jP ψ e.2.1) →
  ∀p∈(l.map fun p=>(p.1,AV.bH p.2.1)),az Z' ψ' h' w p.2 (a.tmps.getD p.1 undef)
 |[],_,_,_,p,hp=>by simp at hp
 |(s,id,ok)::r,x,hx,jg,p,hp=>by
  obtain⟨h1,h2⟩:=qZ hx
  simp only[fw]at jg
  simp only[List.map_cons]at hp
  rcases List.mem_cons.1 hp with rfl|hp
  ·exact EY h1 (t.rep s) (jg _ List.mem_cons_self)
  ·exact vc t r x.2 h2 (fun e he=>jg e (List.mem_cons_of_mem _ he)) p hp
end
theorem vd{st:St}{m:Nat}:∀(l:List (Nat×Nat×OK)) (x:Jy (l.map (·.2.2))),nX st m l=true→∃o,(m,some m,o)∈fw st l x
 |[],_,h=>by cases h
 |(s,id,ok)::r,x,h=>by
  simp only[nX,Bool.or_eq_true,Bool.and_eq_true,beq_iff_eq]at h
  rcases h with⟨rfl,h⟩|h
  ·split at h
   ·rename_i i hl
    have hi:i=id:=by simpa using h
    subst hi
    exact⟨_,by simp only[fw,hl,oX,List.head?_cons];exact List.mem_cons_self⟩
   ·cases h
  ·obtain⟨o,ho⟩:=vd r x.2 h
   exact⟨o,List.mem_cons_of_mem _ ho⟩
theorem tc{st:St}{m:Nat}:∀(l:List (Nat×Nat×OK)) (x:Jy (l.map (·.2.2))),nm st l=some x→nX st m l=true→st.heap.get m≠none
 |[],_,_,h=>by cases h
 |(s,id,ok)::r,x,hx,h=>by
  obtain⟨h1,h2⟩:=qZ hx
  simp only[nX,Bool.or_eq_true,Bool.and_eq_true,beq_iff_eq]at h
  rcases h with⟨rfl,h⟩|h
  ·split at h
   ·rename_i i hl
    have hi:i=id:=by simpa using h
    subst hi
    rw[hl]at h1
    simp only[dS]at h1
    split at h1
    ·rename_i hg;rw[hg];simp
    ·cases h1
   ·cases h
  ·exact tc r x.2 h2 h
theorem Lu{kL:List AV}{hh:Heap}{b:Nat}(hb:qy Z ψ hh.get kL b):Z b∨Own ψ hh.get b:=hb.imp (fun h=>h) fun⟨i,_,h2,h3⟩=>⟨i,h2,h3⟩
theorem gj{sh:Shape}{st:St}{x:sh.T}{n:Nat}{a:Act}(hx:cG sh st=some x)(k:Ok Z0 w0 O ψ0 Z ψ st.heap.get w)(t:cP Z ψ st.heap.get w n (look st.tmps) a) :
  ∃Z' ψ',Ok Z0 w0 O ψ0 Z' ψ' (aq sh x).heap.get w∧cP Z' ψ' (aq sh x).heap.get w n (look (aq sh x).tmps) a:=by
 unfold cG at hx
 split at hx
 ·cases hx
 rename_i ids nr
 split at hx
 ·rename_i xv xb xr hv hb hr C4
  cases hx
  simp only[Bool.and_eq_true]at C4
  obtain⟨He,AU,ae9,afa⟩:=C4
  obtain⟨hlen,AX⟩:=jo _ _ _ hb
  have VX:(sh.boxes.map (·.2.1)).length=sh.bs.length:=by simp[Shape.bs]
  let L:List yc:=cx sh.bs st.heap ids (sh.boxes.map (·.2.1)) 9000 xb++fw st sh.rows xr
  have eH:dD L=(aq sh (xv,xb,xr)).heap:=by
   show dD (_++_)=_
   rw[mN,jn _ _ _ _ _ _ hb VX,u7];rfl
  have eN:L.map (·.1)=rK sh:=by
   show(_++_:List yc).map _=_
   rw[List.map_append,gZ _ _ _ _ _ _ hb VX,s8];rfl
  have eS:L.filterMap (·.2.1)=Gt st sh ids:=by
   show(_++_:List yc).filterMap _=_
   rw[List.filterMap_append,kf _ _ _ _ _ _ hb VX,yr];rfl
  have hn:cc (L.map (·.1))=true:=by rw[eN];exact AU
  have jg:=zu (ψ:=ψ) hn
  have hz:∀b,Z b→qy Z ψ st.heap.get (zm st sh ids) b:=fun b hb=>.inl hb
  have Jn:=(rX He).2 st.heap
  have g':Good (qy Z ψ st.heap.get (zm st sh ids)) (eX ψ L) (dD L).get w w0.heap.size O:=by
   refine wF k.dV He hn eS fun e he=>?_
   rcases List.mem_append.1 he with he|he
   ·exact lO k.dV hz sh.bs ids _ 9000 xb hb (fun id b bO h1 h2=>.inr ⟨id,List.mem_append_right _ bO,h1,h2⟩) (fun s hs=>Jn s (List.mem_append_left _ hs)) (fun e he=>jg e (List.mem_append_left _ he)) e he
   ·exact Bb sh.rows xr hr (fun s hs=>Jn s (List.mem_append_right _ hs)) e he
  have PJ:∀p∈ids.zip (sh.boxes.map (·.2.1)),(dD L).get p.2≠none→eX ψ L p.2=ψ p.1:=fun p hp br=>by
   obtain⟨o,ho⟩:=kg sh.bs ids (sh.boxes.map (·.2.1)) 9000 xb (hh:=st.heap) hlen p hp
   exact jg (p.2,some p.1,o) (List.mem_append_left _ ho) br
  have wb:∀p∈ids.zip (sh.boxes.map (·.2.1)),st.heap.get p.1≠none:=fun p hp=>AX _ (List.of_mem_zip hp).1
  refine⟨qy Z ψ st.heap.get (zm st sh ids),eX ψ L,?_,?_⟩
  ·rw[←eH]
   refine⟨g',fun b hb=>.inl (k.fQ b hb),fun b hb=>?_,k.os,k.tape,k.output,k.size,k.block,fun i hi br=>?_⟩
   ·rcases Lu hb with h1|⟨id,h1,h2⟩
    ·exact k.eL b h1
    ·exact .inr (k.dV.live id b h1 h2).2.symm
   ·obtain⟨o,ho⟩:=Option.ne_none_iff_exists'.1 br
    obtain⟨s,hm⟩:=n8 ho
    have gR:i∈rK sh:=by rw[←eN];exact List.mem_map.2 ⟨_,hm,rfl⟩
    have h1:=List.all_eq_true.1 ae9 i gR
    simp only[Bool.or_eq_true,decide_eq_true_eq]at h1
    rcases h1 with(h1|h1)|h1
    ·omega
    ·obtain⟨p,hp,he⟩:=List.any_eq_true.1 h1
     simp only[Bool.and_eq_true,beq_iff_eq]at he
     have h2:=PJ p hp (by rw[he.2];exact br)
     rw[he.1,he.2]at h2
     rw[h2]
     exact k.fix i hi (by have:=wb p hp;rwa [he.1]at this)
    ·obtain⟨o',nt⟩:=vd sh.rows xr h1
     have h2:eX ψ L i=ψ i:=jg (i,some i,o') (List.mem_append_right _ nt) br
     rw[h2]
     exact k.fix i hi (tc sh.rows xr hr h1)
  ·rw[←eH]
   refine eY (fun p hp=>?_) t.size t.defers
   simp only[aq]at hp
   rcases List.mem_append.1 hp with hp|hp
   ·exact u9 k.dV t hz sh.yU xv hv (fun id b bO h1 h2=>.inr ⟨id,List.mem_append_left _ bO,h1,h2⟩) p hp
   ·rcases List.mem_append.1 hp with hp|hp
    ·exact ta t sh.boxes ids nr AX PJ p hp
    ·rcases List.mem_append.1 hp with hp|hp
     ·exact yu t wb PJ sh.fns afa p hp
     ·exact vc t sh.rows xr hr (fun e he=>jg e (List.mem_append_right _ he)) p hp
 ·cases hx
end Go.Vs
namespace Go.Vs
variable {P:Program} {Eqs:TypeId→Option K} {Sg:FuncId→Option aN} {F:(f:FuncId)→(g:aN)→g.A→Option g.B} {R:Type}
variable {Z Z' Z0:Nat→Prop} {ψ ψ' ψ0:Nat→Value} {h h':Hp} {w w' w0:World} {B0:Nat} {O N:Nat→Prop}
def Reach(P:Program)(b:Frame)(cs:List Frame)(tW:Act→World→Prop)(m:Machine):Prop:=∃a' w' todo,tW a' w'∧Steps P m (lone { b.at a' todo with mode:=.returning } cs w')
theorem Reach.head{b:Frame}{cs:List Frame}{tW:Act→World→Prop}{m m':Machine}(h:step P m=.next m')(r:Reach P b cs tW m'):Reach P b cs tW m:=by
 obtain⟨a,w,todo,h1,h2⟩:=r
 exact⟨a,w,todo,h1,.head h h2⟩
theorem Reach.steps{b:Frame}{cs:List Frame}{tW:Act→World→Prop}{m m':Machine}(h:Steps P m m')(r:Reach P b cs tW m'):Reach P b cs tW m:=by
 obtain⟨a,w,todo,h1,h2⟩:=r
 exact⟨a,w,todo,h1,h.trans h2⟩
mutual
theorem Hf{p:Nat→Prop}(hp:∀i,p i):∀v:AV,aJ p v
 |.ref id _ _ _=>by simp only[aJ];exact hp id
 |.bH id=>by simp only[aJ];exact hp id
 |.fn _ cap=>by simp only[aJ];exact r9 hp cap
 |.agg cs=>by simp only[aJ];exact r9 hp cs
 |.nh vs=>by simp only[aJ];exact r9 hp vs
 |.no=>by simp only[aJ]
 |.bool _=>by simp only[aJ]
 |.int _ _=>by simp only[aJ]
 |.str _=>by simp only[aJ]
 |.kX=>by simp only[aJ]
 |.fV=>by simp only[aJ]
 |.fp _ _ _=>by simp only[aJ]
 |.sl _ _ _=>by simp only[aJ]
 |.mp _ _ _=>by simp only[aJ]
theorem r9{p:Nat→Prop}(hp:∀i,p i):∀l:List AV,aC p l
 |[]=>by simp only[aC]
 |v::r=>by simp only[aC];exact⟨Hf hp v,r9 hp r⟩
end
theorem Up(s:Nat){n:Nat}{a:Act}{st:St}(k:Ok Z0 w0 O ψ0 Z ψ st.heap.get w)(t:cP Z ψ st.heap.get w n (look st.tmps) a):∃Z',Ok Z0 w0 O ψ0 Z' ψ (Pb s st).heap.get w∧cP Z' ψ (Pb s st).heap.get w n (look (Pb s st).tmps) a:=by
 unfold Pb
 split
 ·rename_i m hl
  split
  ·rename_i ty kk xs hg
   have g:=k.dV
   obtain⟨vs,P9,uQ⟩:=g.row m (.row ty kk) xs hg
   have hs:∀i o,(st.heap.del m).get i=some o→st.heap.get i=some o:=fun i o hi=>by rw[uN]at hi;by_cases e:i=m<;>simp_all [ed]
   have gg:=g.freeze (Z':=fun b=>Z b∨ob (ψ m)=some b) (h':=(st.heap.del m).get) hs (fun b hb=>.inl hb) (fun b hb=>hb.imp (fun h=>h) (fun hb=>⟨m,by rw[hg];simp,by rw[uN,bw],hb⟩))
   have n1:Next Z ψ st.heap.get w w0.heap.size O (fun _=>False) (fun b=>Z b∨ob (ψ m)=some b) ψ (st.heap.del m).get w:=⟨fun b hb=>.inl hb,fun b hb=>hb.imp (fun h=>h) (fun hb=>.inl ⟨m,by rw[hg];simp,hb⟩),c9.refl _ _ _,fun i hi=>by
    obtain⟨o,ho⟩:=Option.ne_none_iff_exists'.1 hi
    exact .inl ⟨by rw[hs i o ho];simp,rfl⟩,gg⟩
   refine⟨_,k.next (fun id h=>h.elim) n1,⟨fun d=>?_,t.size,t.defers⟩⟩
   rw[rZ _ rfl]
   have hr:=t.rep d
   by_cases hv:look st.tmps d=.bH m
   ·rw[hv]at hr ⊢
    simp only[az]at hr
    have hu:=hr.2 (by rw[hg];simp)
    simp only[yT,if_true,az]
    exact⟨by rw[hu];exact uJ P9 uQ (fun b hb=>.inl hb) (fun b hb=>.inr hb),by simp⟩
   ·have hf:yT m (.sl false kk xs) (look st.tmps d)=look st.tmps d:=by
     unfold yT
     split
     ·split
      ·rename_i i hi e;subst e;exact absurd hi hv
      ·rename_i i hi e;exact hi.symm
     ·rfl
    rw[hf]
    exact n1.rep g (Hf (fun _ h=>h) _) hr
  ·exact⟨Z,k,t⟩
 ·exact⟨Z,k,t⟩
theorem Qa{n:Nat}{a:Act}(o:Option Shape){st:St}(k:Ok Z0 w0 O ψ0 Z ψ st.heap.get w)(t:cP Z ψ st.heap.get w n (look st.tmps) a):∃Z',Ok Z0 w0 O ψ0 Z' ψ (Gu o st).heap.get w∧cP Z' ψ (Gu o st).heap.get w n (look (Gu o st).tmps) a:=by
 unfold Gu
 split
 ·rename_i sh
  generalize sh.rows=l
  induction l generalizing Z st with
  |nil=>exact⟨Z,k,t⟩
  |cons p r ih =>
   obtain⟨Z1,k1,t1⟩:=Up p.1 k t
   exact ih k1 t1
 ·exact⟨Z,k,t⟩
theorem q6(V:Env P Eqs Sg F)(hm:P.follows .mixedOrders=true){n:Nat}{ann:Nat→Option Shape}{J:(sh:Shape)→List Item→sh.T→Option R}{ret:St→Option R}{r:R}{b:Frame}{cs:List Frame}{tW:Act→World→Prop}
  (hJ:∀sh c k x Z ψ a w,J sh (.inLoop c::k) x=some r→Ok Z0 w0 O ψ0 Z ψ (aq sh x).heap.get w→cP Z ψ (aq sh x).heap.get w n (look (aq sh x).tmps) a→Reach P b cs tW (lone (b.at a (.code c::.inLoop c::k)) cs w))
  (sL:∀st Z ψ a w,ret st=some r→Ok Z0 w0 O ψ0 Z ψ st.heap.get w→cP Z ψ st.heap.get w n (look st.tmps) a→tW a w) :
  ∀(fu:Nat) (items:List Item) (st:St) (Z:Nat→Prop) (ψ:Nat→Value) (a:Act) (w:World),aB P Eqs Sg F n ann J ret fu items st=some r→Ok Z0 w0 O ψ0 Z ψ st.heap.get w→cP Z ψ st.heap.get w n (look st.tmps) a →
   Reach P b cs tW (lone (b.at a items) cs w)
 |0,items,st,Z,ψ,a,w,hx,k,t=>by
  cases items<;>simp only[aB]at hx<;>cases hx
 |fu+1,[],st,Z,ψ,a,w,hx,k,t=>⟨a,w,[],sL st Z ψ a w (by simpa only[aB] using hx) k t,.one step_end⟩
 |fu+1,it::Nq,st,Z,ψ,a,w,hx,k,t=>by
  have ih:=q6 V hm (ann:=ann) hJ sL fu
  have loop:∀c,(match ann (rL c) with
    |none=>none
    |some sh=>match cG sh st with
     |some x=>J sh (.inLoop c::Nq) x
     |none=>none)=some r→Reach P b cs tW (lone (b.at a (.code c::.inLoop c::Nq)) cs w):=fun c hx=>by
   split at hx
   ·cases hx
   ·rename_i sh hsh
    split at hx
    ·rename_i x hxx
     obtain⟨Z',ψ',k',t'⟩:=gj hxx k t
     exact hJ sh c Nq x Z' ψ' a w hx k' t'
    ·cases hx
  cases it with
  |inBlock id=>exact .head step_inBlock (ih Nq st Z ψ a w (by simpa only[aB] using hx) k t)
  |inScope c=>exact .head step_inScope (ih Nq st Z ψ a w (by simpa only[aB] using hx) k t)
  |inLoop c=>exact .head step_inLoop (loop c (by simp only[aB]at hx;exact hx))
  |code c =>
   cases c with
   |skip=>exact .head step_skip (ih Nq st Z ψ a w (by simpa only[aB] using hx) k t)
   |label l=>exact .head step_label (ih Nq st Z ψ a w (by simpa only[aB] using hx) k t)
   |seq x y=>exact .head step_seq (ih _ st Z ψ a w (by simpa only[aB] using hx) k t)
   |cond c x y =>
    simp only[aB]at hx
    split at hx
    ·rename_i tt ht
     have h1:=qX t c
     rw[ht]at h1
     simp only[az]at h1
     cases tt with
     |true=>exact .head (step_cond h1) (ih _ st Z ψ a w hx k t)
     |false=>exact .head (step_cond h1) (ih _ st Z ψ a w hx k t)
    ·cases hx
   |scope c=>exact .head step_scope (ih _ st Z ψ a w (by simpa only[aB] using hx) k t)
   |block id c=>exact .head step_block (ih _ st Z ψ a w (by simpa only[aB] using hx) k t)
   |loop c =>
    simp only[aB]at hx
    cases fu with
    |zero=>simp only[aB]at hx;cases hx
    |succ fu=>exact .head step_loop (loop c (by simp only[aB]at hx;exact hx))
   |exit id =>
    simp only[aB]at hx
    split at hx
    ·rename_i k' hk;exact .head (step_exit hk) (ih _ st Z ψ a w hx k t)
    ·cases hx
   |ret=>exact⟨a,w,_,sL st Z ψ a w (by simpa only[aB] using hx) k t,.one step_ret⟩
   |region id ops draw =>
    simp only[aB]at hx
    obtain⟨Zf,k,t⟩:=Qa (ann (500000+id)) k t
    have hw:=Fc V hm (Q:=fun e a w=>e=.normal∧∃eJ Z ψ,aB P Eqs Sg F n ann J ret fu Nq eJ=some r∧Ok Z0 w0 O ψ0 Z ψ eJ.heap.get w∧cP Z ψ eJ.heap.get w n (look eJ.tmps) a) hx k t (fun eJ Z ψ a w h1 h2 h3=>⟨rfl,eJ,Z,ψ,h1,h2,h3⟩)
    obtain⟨e,a',w',⟨rfl,eJ,Z',ψ',h1,h2,h3⟩,PI⟩:=hw b Nq cs
    exact .steps PI (ih Nq eJ Z' ψ' a' w' h1 h2 h3)
   |_=>simp only[aB]at hx;cases hx
  |_=>simp only[aB]at hx;cases hx
theorem q7{hh:Heap}{n:Nat}{s:List (Nat×AV)}{a:Act}(g:Good Z ψ hh.get w B0 O)(t:cP Z ψ hh.get w n (look s) a):∀(l:List ResultVar) (acc:Array Value) (vs:List AV),xS P hh s l=some vs →
  ∃us,(l.foldlM (fun(bs:Array Value) r=>do let y ←(match r with | .tmp t=>pure (a.tmps.getD t undef) | .cell p ty=>do loadVar ty (←asAddr (a.tmps.getD p undef)):Sem Value);pure (bs.push y)) acc:Sem (Array Value)).run P w=.ok (acc++us.toArray) w∧an Z ψ hh.get w vs us
 |[],acc,vs,hx=>by
  simp only[xS]at hx
  cases hx
  exact⟨[],by simp,by simp only[an]⟩
 |.tmp d::l,acc,vs,hx=>by
  simp only[xS]at hx
  split at hx
  ·rename_i g6 h1
   cases hx
   obtain⟨us,h2,h3⟩:=q7 g t l (acc.push (a.tmps.getD d undef)) g6 h1
   refine⟨a.tmps.getD d undef::us,?_,by simp only[an];exact⟨_,_,rfl,t.rep d,h3⟩⟩
   simp only[List.foldlM_cons,Sem.run_bind,Sem.run_pure,Result.andThen_ok]
   rw[h2];simp
  ·cases hx
 |.cell d ty::l,acc,vs,hx=>by
  simp only[xS]at hx
  split at hx
  ·rename_i id sz off hd
   split at hx
   ·rename_i bt cs hg
    split at hx
    ·rename_i v g6 hv h1
     cases hx
     have h4:=t.rep d
     rw[hd]at h4
     simp only[az]at h4
     obtain⟨ad,h5,h6⟩:=h4
     obtain⟨gg,ws,e1,e2,e3,e4⟩:=g.box id bt cs hg
     have h7:=h6 (by rw[hg];simp)
     rw[e1]at h7
     simp only[TV,Nat.zero_mul,Nat.zero_add]at h7
     subst h7
     obtain⟨V,h8,h9⟩:=jN (a:=⟨gg,off,none⟩) (e3.drop off) (fun j u hu=>by
      rw[cp];simp only[World.cell?,e2];rw[List.getElem?_drop]at hu;simpa using hu) hv
     have nq:(loadVar ty ⟨gg,off,none⟩).run P w=.ok V w:=by
      have:=h8
      simpa[Instr.loadAt,Instr.sureAddr] using this
     obtain⟨us,h2,h3⟩:=q7 g t l (acc.push V) g6 h1
     refine⟨V::us,?_,by simp only[an];exact⟨_,_,rfl,h9,h3⟩⟩
     have yV:(asAddr (a.tmps.getD d undef)).run P w=.ok ⟨gg,off,none⟩ w:=by rw[h5];rfl
     simp only[List.foldlM_cons,Sem.run_bind,yV,Sem.run_pure,Result.andThen_ok,nq]
     rw[h2];simp
    ·cases hx
   ·cases hx
  ·cases hx
theorem Hg{fn:Func}{hh:Heap}{n:Nat}{s:List (Nat×AV)}{a:Act}{vs:List AV}(g:Good Z ψ hh.get w B0 O)(t:cP Z ψ hh.get w n (look s) a)(hx:xS P hh s fn.results.toList=some vs) :
  ∃us v,(results fn a.tmps).run P w=.ok v w∧an Z ψ hh.get w vs us∧v=(if us.length=1 then us.headD undef else .tuple us.toArray):=by
 obtain⟨us,h1,h2⟩:=q7 (P:=P) g t fn.results.toList #[] vs hx
 refine⟨us,_,?_,h2,rfl⟩
 have h3:(fn.results.mapM fun r=>(match r with | .tmp t=>pure (a.tmps.getD t undef) | .cell p ty=>do loadVar ty (←asAddr (a.tmps.getD p undef)):Sem Value)).run P w=.ok us.toArray w:=by
  rw[Array.mapM_eq_foldlM,←Array.foldlM_toList]
  simpa using h1
 have h4:results fn a.tmps=(do
   let vs ←fn.results.mapM fun r=>(match r with | .tmp t=>pure (a.tmps.getD t undef) | .cell p ty=>do loadVar ty (←asAddr (a.tmps.getD p undef)):Sem Value)
   pure (if h:vs.size=1 then vs[0] else .tuple vs)):=rfl
 rw[h4,Sem.run_bind,h3,Result.andThen_ok,Sem.run_pure]
 congr 1
 by_cases h5:us.length=1
 ·obtain⟨u,rfl⟩:=List.length_eq_one_iff.1 h5
  simp
 ·rw[dif_neg (by simpa using h5),if_neg h5]
end Go.Vs
namespace Go.Vs
variable {P:Program} {Eqs:TypeId→Option K} {Sg:FuncId→Option aN} {F:(f:FuncId)→(g:aN)→g.A→Option g.B} {R:Type}
variable {Z Z' Z0:Nat→Prop} {ψ ψ' ψ0:Nat→Value} {h h':Hp} {w w' w0:World} {B0:Nat} {O N:Nat→Prop}
theorem gk:∀(ps:List PK) (ids:List Nat) (s:Nat) (x:Gp (kN ps)) (us:List Value),an Z ψ h w ((aU ps ids s x).map (·.2)) us→us.length=ps.length∧∀p∈aU ps ids s x,∃j u,p.1=s+j∧us[j]? = some u∧az Z ψ h w p.2 u
 |[],ids,s,x,us,hr=>by
  simp only[aU,List.map_nil,an]at hr
  subst hr
  exact⟨rfl,fun p hp=>by simp[aU]at hp⟩
 |.val k::ps,ids,s,x,us,hr=>by
  simp only[aU,List.map_cons,an]at hr
  obtain⟨u,iX,rfl,h1,h2⟩:=hr
  obtain⟨h3,h4⟩:=gk ps ids (s+1) x.2 iX h2
  refine⟨by simp[h3],fun p hp=>?_⟩
  simp only[aU]at hp
  rcases List.mem_cons.1 hp with rfl|hp
  ·exact⟨0,u,rfl,rfl,h1⟩
  ·obtain⟨j,u',h5,h6,h7⟩:=h4 p hp
   exact⟨j+1,u',by omega,by simpa using h6,h7⟩
 |.ref::ps,i::ids,s,x,us,hr=>by
  simp only[aU,List.map_cons,an]at hr
  obtain⟨u,iX,rfl,h1,h2⟩:=hr
  obtain⟨h3,h4⟩:=gk ps ids (s+1) x iX h2
  refine⟨by simp[h3],fun p hp=>?_⟩
  simp only[aU]at hp
  rcases List.mem_cons.1 hp with rfl|hp
  ·exact⟨0,u,rfl,rfl,h1⟩
  ·obtain⟨j,u',h5,h6,h7⟩:=h4 p hp
   exact⟨j+1,u',by omega,by simpa using h6,h7⟩
 |.ref::ps,[],s,x,us,hr=>by
  simp only[aU,List.map_cons,an]at hr
  obtain⟨u,iX,rfl,h1,h2⟩:=hr
  obtain⟨h3,h4⟩:=gk ps [] (s+1) x iX h2
  refine⟨by simp[h3],fun p hp=>?_⟩
  simp only[aU]at hp
  rcases List.mem_cons.1 hp with rfl|hp
  ·exact⟨0,u,rfl,rfl,h1⟩
  ·obtain⟨j,u',h5,h6,h7⟩:=h4 p hp
   exact⟨j+1,u',by omega,by simpa using h6,h7⟩
 |.own::ps,i::ids,s,x,us,hr=>by
  simp only[aU,List.map_cons,an]at hr
  obtain⟨u,iX,rfl,h1,h2⟩:=hr
  obtain⟨h3,h4⟩:=gk ps ids (s+1) x iX h2
  refine⟨by simp[h3],fun p hp=>?_⟩
  simp only[aU]at hp
  rcases List.mem_cons.1 hp with rfl|hp
  ·exact⟨0,u,rfl,rfl,h1⟩
  ·obtain⟨j,u',h5,h6,h7⟩:=h4 p hp
   exact⟨j+1,u',by omega,by simpa using h6,h7⟩
 |.own::ps,[],s,x,us,hr=>by
  simp only[aU,List.map_cons,an]at hr
  obtain⟨u,iX,rfl,h1,h2⟩:=hr
  obtain⟨h3,h4⟩:=gk ps [] (s+1) x iX h2
  refine⟨by simp[h3],fun p hp=>?_⟩
  simp only[aU]at hp
  rcases List.mem_cons.1 hp with rfl|hp
  ·exact⟨0,u,rfl,rfl,h1⟩
  ·obtain⟨j,u',h5,h6,h7⟩:=h4 p hp
   exact⟨j+1,u',by omega,by simpa using h6,h7⟩
 |.Gh f m::ps,ids,s,x,us,hr=>by
  simp only[aU,List.map_cons,an]at hr
  obtain⟨u,iX,rfl,h1,h2⟩:=hr
  obtain⟨h3,h4⟩:=gk ps (ids.drop m) (s+1) x iX h2
  refine⟨by simp[h3],fun p hp=>?_⟩
  simp only[aU]at hp
  rcases List.mem_cons.1 hp with rfl|hp
  ·exact⟨0,u,rfl,rfl,h1⟩
  ·obtain⟨j,u',h5,h6,h7⟩:=h4 p hp
   exact⟨j+1,u',by omega,by simpa using h6,h7⟩
 |.agg m::ps,ids,s,x,us,hr=>by
  simp only[aU,List.map_cons,an]at hr
  obtain⟨u,iX,rfl,h1,h2⟩:=hr
  obtain⟨h3,h4⟩:=gk ps (ids.drop m) (s+1) x iX h2
  refine⟨by simp[h3],fun p hp=>?_⟩
  simp only[aU]at hp
  rcases List.mem_cons.1 hp with rfl|hp
  ·exact⟨0,u,rfl,rfl,h1⟩
  ·obtain⟨j,u',h5,h6,h7⟩:=h4 p hp
   exact⟨j+1,u',by omega,by simpa using h6,h7⟩
section
variable {An:FuncId→Nat→Option Shape}
theorem Bc(V:Env P Eqs Sg F)(hm:P.follows .mixedOrders=true){f:FuncId}{g:aN}{fn:Func}{y:g.B}{b:Frame}{cs:List Frame}{tW:Act→World→Prop}
  (sL:∀st Z ψ a w,qN P g fn st=some y→Ok Z0 w0 O ψ0 Z ψ st.heap.get w→cP Z ψ st.heap.get w fn.ntmps (look st.tmps) a→tW a w) :
  ∀(n:Nat) (sh:Shape) (c:Code) (k:List Item) (x:sh.T) (Z:Nat→Prop) (ψ:Nat→Value) (a:Act) (w:World),mD P Eqs Sg An F f g fn n sh (.inLoop c::k) x=some y →
   Ok Z0 w0 O ψ0 Z ψ (aq sh x).heap.get w→cP Z ψ (aq sh x).heap.get w fn.ntmps (look (aq sh x).tmps) a→Reach P b cs tW (lone (b.at a (.code c::.inLoop c::k)) cs w)
 |0,sh,c,k,x,Z,ψ,a,w,hx,_,_=>by simp only[mD]at hx;cases hx
 |n+1,sh,c,k,x,Z,ψ,a,w,hx,ko,t=>by
  simp only[mD]at hx
  exact q6 V hm (fun sh c k x Z ψ a w h1 h2 h3=>Bc V hm sL n sh c k x Z ψ a w h1 h2 h3) sL fuel _ _ Z ψ a w hx ko t
theorem Fe{n i:Nat}(h:i∈aP n):∃j,j<n∧i=1000+20*j:=by
 unfold aP at h
 obtain⟨j,h1,rfl⟩:=List.mem_map.1 h
 exact⟨j,List.mem_range.1 h1,rfl⟩
theorem Qb{α:Type}{l:List α}{a:α}(h:a∈l):(a,a)∈l.zip l:=by
 induction l with
 |nil=>cases h
 |cons b r ih =>
  simp only[List.zip_cons_cons]
  rcases List.mem_cons.1 h with rfl|h
  ·exact List.mem_cons_self
  ·exact List.mem_cons_of_mem _ (ih h)
theorem Ka(V:Env P Eqs Sg F)(hm:P.follows .mixedOrders=true){f:FuncId}{g:aN}{n:Nat}{x:g.A}{y:g.B}(hx:Jz P Eqs Sg An F f g n x=some y):DN P f g x y:=by
 intro Z ψ0 w kh hg hr
 unfold Jz at hx
 split at hx
 ·cases hx
 rename_i fn c VY
 have hf:P.funcs[f%1000]? = some fn∧fn.body=some c:=by
  unfold body at VY
  obtain⟨fn',h1,h2⟩:=Option.bind_eq_some_iff.1 VY
  obtain⟨c',h3,h4⟩:=Option.map_eq_some_iff.1 h2
  cases h4
  exact⟨h1,h3⟩
 split at hx
 ·rename_i hle
  simp only[Bool.and_eq_true,decide_eq_true_eq]at hle
  obtain⟨hlen,XA⟩:=gk g.ps (aP g.bs.length) 0 x.1 kh hr
  intro cs
  let b:Frame:={ (default:Frame) with fn:=f%1000,kind:=.normal }
  let a0:Act:={ tmps:=kh.toArray++Array.replicate (fn.ntmps-kh.toArray.size) undef,defers:=[] }
  have XB:Frame.enter P (f%1000) kh.toArray .normal=b.at a0 [.code c]:=by
   simp[Frame.enter,Frame.at,hf.1,hf.2,b,a0]
  have ok0:Ok Z w (Own ψ0 (pz g x)) ψ0 Z ψ0 (entry g x).heap.get w :=
   ⟨hg,fun _ h=>h,fun _ h=>.inl h,rfl,rfl,rfl,Nat.le_refl _,fun _ _ _=>rfl,fun _ _ _=>rfl⟩
  have tr0:cP Z ψ0 (entry g x).heap.get w fn.ntmps (look (entry g x).tmps) a0:=by
   refine eY (fun p hp=>?_) (by simp[a0];omega) rfl
   obtain⟨j,u,h1,h2,h3⟩:=XA p hp
   rw[h1]
   have hj:j<kh.length:=(List.getElem?_eq_some_iff.1 h2).1
   have:a0.tmps.getD (0+j) undef=u:=by
    rw[Nat.zero_add,Array.getD_eq_getD_getElem?]
    simp only[a0]
    rw[Array.getElem?_append_left (by simpa using hj)]
    simp[h2]
   rw[this];exact h3
  have sL:∀st Z1 nN a w1,qN P g fn st=some y→Ok Z w (Own ψ0 (pz g x)) ψ0 Z1 nN st.heap.get w1→cP Z1 nN st.heap.get w1 fn.ntmps (look st.tmps) a →
    a.defers=[]∧∃v,(results fn a.tmps).run P w1=.ok v w1∧∃v' Z' ψ',Ending.returned v=.returned v'∧(∀b,Z b→Z' b)∧(∀b,Z' b→Z b∨Own ψ0 (pz g x) b∨w.heap.size≤b)∧c9 ψ0 (pz g x) w w1 ∧
     Good Z' ψ' (jS g y).get w1 w.heap.size (Own ψ0 (pz g x))∧(∀i∈aP g.bs.length,ψ' i=ψ0 i)∧az Z' ψ' (jS g y).get w1 (fe (aW g.rs (aP g.bs.length) 2000 3000 y.1)) v':=by
   intro st Z1 nN a w1 sL k t
   refine⟨t.defers,?_⟩
   unfold qN at sL
   split at sL
   ·cases sL
   rename_i vs tH
   split at sL
   ·rename_i y1 y2 hd hb C4
    cases sL
    simp only[Bool.and_eq_true]at C4
    obtain⟨He,AU⟩:=C4
    obtain⟨us,v,h1,h2,h3⟩:=Hg (P:=P) k.dV t tH
    have VX:(aP g.bs.length).length=g.bs.length:=by simp[aP]
    let L:List yc:=cx g.bs st.heap (aP g.bs.length) (aP g.bs.length) 2000 y2++cE g.rs vs 3000 y1
    have eH:dD L=jS g (y1,y2):=by
     show dD (_++_)=_
     rw[mN,jn _ _ _ _ _ _ hb VX,gH];rfl
    have eN:L.map (·.1)=qB g:=by
     show(_++_:List yc).map _=_
     rw[List.map_append,gZ _ _ _ _ _ _ hb VX,fL];rfl
    have eS:L.filterMap (·.2.1)=c8 g.bs st.heap (aP g.bs.length)++dO g.rs vs:=by
     show(_++_:List yc).filterMap _=_
     rw[List.filterMap_append,kf _ _ _ _ _ _ hb VX,iJ _ _ _ _ hd]
    have hn:cc (L.map (·.1))=true:=by rw[eN];exact AU
    have jg:=zu (ψ:=nN) hn
    have hz:∀b,Z1 b→qy Z1 nN st.heap.get (fX g.rs vs++fW g.bs st.heap (aP g.bs.length)) b:=fun b hb=>.inl hb
    have Jn:=(rX He).2 st.heap
    have g':Good (qy Z1 nN st.heap.get (fX g.rs vs++fW g.bs st.heap (aP g.bs.length))) (eX nN L) (dD L).get w1 w.heap.size (Own ψ0 (pz g x)):=by
     refine wF k.dV He hn eS fun e he=>?_
     rcases List.mem_append.1 he with he|he
     ·exact lO k.dV hz g.bs _ _ 2000 y2 hb (fun id b bO h1 h2=>.inr ⟨id,List.mem_append_right _ bO,h1,h2⟩) (fun s hs=>Jn s (List.mem_append_left _ hs)) (fun e he=>jg e (List.mem_append_left _ he)) e he
     ·exact jR g.rs vs 3000 y1 hd (fun s hs=>Jn s (List.mem_append_right _ hs)) e he
    obtain⟨DZ,AX⟩:=jo _ _ _ hb
    have OR:=rY (ids2:=aP g.bs.length) (Z':=qy Z1 nN st.heap.get (fX g.rs vs++fW g.bs st.heap (aP g.bs.length))) (ψ':=eX nN L) (h':=(dD L).get) k.dV hz hb VX (fun e he=>jg e (List.mem_append_left _ he)) g.rs vs 3000 y1 us hd
     (fun id b bO h1 h2=>.inr ⟨id,List.mem_append_left _ bO,h1,h2⟩) (fun e he=>jg e (List.mem_append_right _ he)) h2
    refine⟨v,h1,v,qy Z1 nN st.heap.get (fX g.rs vs++fW g.bs st.heap (aP g.bs.length)),eX nN L,rfl,fun b hb=>.inl (k.fQ b hb),fun b hb=>?_,⟨k.os,k.tape,k.output,k.size,k.block⟩,by rw[←eH];exact g',fun i hi=>?_,?_⟩
    ·rcases Lu hb with h4|⟨id,h4,h5⟩
     ·exact k.eL b h4
     ·exact .inr (k.dV.live id b h4 h5).2.symm
    ·obtain⟨o,ho⟩:=kg (hh:=st.heap) g.bs (aP g.bs.length) (aP g.bs.length) 2000 y2 DZ (i,i) (Qb hi)
     rw[iI hn (List.mem_append_left _ ho)]
     obtain⟨j,h4,h5⟩:=Fe hi
     exact k.fix i (by omega) (AX i hi)
    ·rw[←eH]
     have Pg:us.length=(aW g.rs (aP g.bs.length) 2000 3000 y1).length:=OR.length.symm
     rw[h3]
     match hE:aW g.rs (aP g.bs.length) 2000 3000 y1,us,OR,Pg with
     |[],[],OR,_=>simp only[fe];simp only[az];exact⟨#[],rfl,by simpa using OR⟩
     |[e1],[u],OR,_ =>
      simp only[an]at OR
      obtain⟨u',iX,he,h4,_⟩:=OR
      cases he
      simpa[fe] using h4
     |e1::e2::er,u1::u2::ur,OR,_ =>
      simp only[fe,az]
      exact⟨(u1::u2::ur).toArray,by simp,by simpa using OR⟩
   ·cases sL
  have reach:=q6 V hm (b:=b) (cs:=cs) (fun sh c k x Z ψ a w h1 h2 h3=>Bc V hm sL n sh c k x Z ψ a w h1 h2 h3) sL fuel _ _ Z ψ0 a0 w hx ok0 tr0
  obtain⟨a',w',todo,⟨hd,v,ve,hR⟩,hs⟩:=reach
  rw[←XB]at hs
  exact⟨.returned v,w',_,hR,hs,rfl,rfl,hd,rfl,fn,hf.1,ve⟩
 ·cases hx
end
theorem Hh(hX:∀f g u,Sg f=some g→g.x=some u→iz P (f%1000) u){G:(f:FuncId)→(g:aN)→Option (g.A→Option g.B)}{An:FuncId→Nat→Option Shape}(CS:∀t k,Eqs t=some k→lL P t k)(Na:∀f g,Sg f=some g→jq P (f%1000))(hm:P.follows .mixedOrders=true)
  (hG:∀f g u x y,Sg f=some g→G f g=some u→u x=some y→DN P f g x y):∀(m:Nat) f g x y,Sg f=some g→Fn P Eqs Sg An G m f g x=some y→DN P f g x y
 |0,f,g,x,y,hs,hx=>by
  simp only[Fn]at hx
  split at hx
  ·rename_i u hu;exact hG f g u x y hs hu hx
  ·cases hx
 |m+1,f,g,x,y,hs,hx=>by
  simp only[Fn]at hx
  split at hx
  ·rename_i u hu;exact hG f g u x y hs hu hx
  ·exact Ka ⟨CS,fun f g x y h1 h2=>Hh hX CS Na hm hG m f g x y h1 h2,hX,Na⟩ hm hx
end Go.Vs
namespace Go.Vs
abbrev FT:=(f:FuncId)→(g:aN)→g.A→Option g.B
variable {P:Program} {Eqs:TypeId→Option K} {Sg:FuncId→Option aN} {R:Type}
def uy(p:Nat→Prop):Prop:=∃m,∀m',m≤m'→p m'
theorem uy.now{p:Nat→Prop}(h:∀m,p m):uy p:=⟨0,fun m _=>h m⟩
theorem uy.and{p q r:Nat→Prop}(h:uy p)(k:uy q)(hr:∀m,p m→q m→r m):uy r:=by
 obtain⟨a,ha⟩:=h
 obtain⟨b,hb⟩:=k
 exact⟨max a b,fun m hm=>hr m (ha m (by omega)) (hb m (by omega))⟩
theorem uy.imp{p r:Nat→Prop}(h:uy p)(hr:∀m,p m→r m):uy r:=by
 obtain⟨a,ha⟩:=h
 exact⟨a,fun m hm=>hr m (ha m hm)⟩
def To(A:Nat→FT)(L:FT):Prop:=∀f g x y,L f g x=some y→uy fun m=>A m f g x=some y
def ToK{α:Type}(A:Nat→α→Option R)(L:α→Option R):Prop:=∀x y,L x=some y→uy fun m=>A m x=some y
def ToJ(A:Nat→(sh:Shape)→List Item→sh.T→Option R)(L:(sh:Shape)→List Item→sh.T→Option R):Prop:=∀sh k x y,L sh k x=some y→uy fun m=>A m sh k x=some y
theorem Qc(h:Heap)(id:Nat)(f:FuncId)(vs:List AV):(∀F F':FT,jk Sg F h id f vs some=jk Sg F' h id f vs some) ∨
  ∃ff g x,(∀F F':FT,F ff g x=F' ff g x→jk Sg F h id f vs some=jk Sg F' h id f vs some)∧∀F:FT,F ff g x=none→jk Sg F h id f vs some=none:=by
 unfold jk
 split
 ·exact .inl fun _ _=>rfl
 rename_i g hg
 split
 ·exact .inl fun _ _=>rfl
 split
 ·split
  ·split
   ·rename_i x b hx hb hp
    refine .inr ⟨_,g,(x,b),fun F F' e=>by rw[e],fun F e=>by rw[e];rfl⟩
   ·exact .inl fun _ _=>rfl
  ·split
   ·rename_i x b hx hb hp
    refine .inr ⟨_,g,(x,b),fun F F' e=>by rw[e],fun F e=>by rw[e];rfl⟩
   ·exact .inl fun _ _=>rfl
 ·exact .inl fun _ _=>rfl
theorem Uq{A:Nat→FT}{L:FT}(hA:To A L){h:Heap}{id:Nat}{f:FuncId}{vs:List AV}{e:bI}(he:jk Sg L h id f vs some=some e):uy fun m=>jk Sg (A m) h id f vs some=some e:=by
 rcases Qc (Sg:=Sg) h id f vs with k|⟨ff,g,x,k1,k2⟩
 ·exact .now fun m=>(k _ _).trans he
 ·cases hy:L ff g x with
  |none=>rw[k2 L hy]at he;cases he
  |some y=>exact(hA _ _ _ _ hy).imp fun m hm=>(k1 (A m) L (hm.trans hy.symm)).trans he
theorem Hi{A:Nat→FT}{L:FT}(hA:To A L){id:Nat}{h:Heap}{s:List (Nat×AV)}{o:Oper}{e:bI}(he:cV P Eqs Sg L id h s o some=some e):uy fun m=>cV P Eqs Sg (A m) id h s o some=some e:=by
 obtain⟨dst,op,type,pos,after,guard⟩:=o
 cases op with
 |call c =>
  obtain⟨callee,args,argTypes⟩:=c
  cases callee with
  |value f =>
   simp only[cV]at he
   split at he
   ·rename_i f' cap hf
    refine(Uq hA he).imp fun m hm=>?_
    simp only[cV,hf]
    exact hm
   ·cases he
  |builtin bi=>cases bi<;>exact .now fun m=>he
  |invoke _ _=>exact .now fun m=>he
 |unOp u _ _=>cases u<;>exact .now fun m=>he
 |makeFunc fn _ _=>cases fn<;>exact .now fun m=>he
 |makeMap _ r=>cases r<;>exact .now fun m=>he
 |next _ b=>cases b<;>exact .now fun m=>he
 |_=>exact .now fun m=>he
theorem uy.all{p:Nat→Nat→Prop}:∀(n:Nat),(∀j,j<n→uy (p j))→uy fun m=>∀j,j<n→p j m
 |0,_=>.now fun m j hj=>absurd hj (Nat.not_lt_zero _)
 |n+1,h=>(uy.all n fun j hj=>h j (by omega)).and (h n (by omega)) fun m h1 h2 j hj=>by
  by_cases e:j=n
  ·subst e;exact h2
  ·exact h1 j (by omega)
theorem Kb{h:Heap}{x:AV}{K:Nat→AV→Heap→Option R}{KL:AV→Heap→Option R}(hK:∀v h y,KL v h=some y→uy fun m=>K m v h=some y){r:R}(he:kZ h x KL=some r):uy fun m=>kZ h x (K m)=some r:=by
 unfold kZ at he ⊢
 split at he
 ·rename_i id
  split at he
  ·rename_i kk vk p hg
   try simp only[hg]
   cases hp:p.2 with
   |nil =>
    simp only[hp,List.isEmpty_nil,cond_true]at he ⊢
    exact hK _ _ _ he
   |cons c l =>
    simp only[hp,List.isEmpty_cons,cond_false]at he ⊢
    have h1:=om he
    refine(uy.all _ fun j hj=>?_).imp fun m hm=>mS (by simp) hm
    have h2:=h1 j hj
    rw[List.getElem?_eq_getElem hj]at h2 ⊢
    simp only[Option.bind_some]at h2 ⊢
    exact hK _ _ _ h2
  ·cases he
 ·cases he
theorem Qd{h:Heap}{x:AV}{want:Bool}{K:Nat→AV→Option R}{KL:AV→Option R}(hK:∀v y,KL v=some y→uy fun m=>K m v=some y){r:R}(he:uG h x want KL=some r):uy fun m=>uG h x want (K m)=some r:=by
 unfold uG at he ⊢
 split at he
 ·exact hK _ _ he
 ·rename_i xs hv
  cases rO:xs.isEmpty with
  |true =>
   simp only[rO,cond_true]at he ⊢
   have h1:=om he
   exact(uy.all _ fun j hj=>hK _ _ (h1 j hj)).imp fun m hm=>mS (by decide) hm
  |false =>
   simp only[rO,cond_false]at he ⊢
   exact hK _ _ he
 ·cases he
theorem Be{A:Nat→FT}{L:FT}(hA:To A L){rid:Nat}{draw:Bool}{ops:Array Oper}{b:Array Nat}{K:Nat→St→Option R}{KL:St→Option R}(hK:ToK K KL) :
  ∀(l:List (Nat×Oper)) (st:St) (r:R),bD P Eqs Sg L rid draw ops b l st KL=some r→uy fun m=>bD P Eqs Sg (A m) rid draw ops b l st (K m)=some r
 |[],st,r,he=>hK st r (by simpa only[bD] using he)
 |(i,o)::l,st,r,he=>by
  have ih:=Be hA (rid:=rid) (draw:=draw) (ops:=ops) (b:=b) hK l
  have run:∀st:St,(match (if draw then none else oZ P (opId rid i) st o) with
    |some eJ=>bD P Eqs Sg L rid draw ops b l eJ KL
    |none=>match (if draw then none else uF o) with
    |some x=>kZ st.heap (ρ st.tmps x) fun v h=>bD P Eqs Sg L rid draw ops b l (({ st with heap:=h }:St).put o.dst v) KL
    |none=>match (if draw then none else isNil P o) with
    |some (x,want)=>uG st.heap (ρ st.tmps x) want fun v=>bD P Eqs Sg L rid draw ops b l (st.put o.dst v) KL
    |none=>if draw then cV P Eqs Sg L (opId rid i) (gW (ahead rid (b.getD i 0) st.heap) (gX ops b i st.tmps o)) st.tmps o fun e =>
     if(gP true rid ops b i (b.getD i 0) (gQ (gX ops b i st.tmps o) (ahead rid (b.getD i 0) st.heap) e)&&nk (gX ops b i st.tmps o) e)=true then
      bD P Eqs Sg L rid draw ops b l ({ st with heap:=match gQ (gX ops b i st.tmps o) (ahead rid (b.getD i 0) st.heap) e with | .wr _ h=>h|e=>e.h st.heap }.put o.dst e.v) KL else none
     else cV P Eqs Sg L (opId rid i) st.heap st.tmps o fun e =>
     if gP false rid ops b i (2 ^ i-1) e then bD P Eqs Sg L rid draw ops b l ({ st with heap:=match e with | .wr _ h=>h|e=>e.h st.heap }.put o.dst e.v) KL else none)=some r →
    uy fun m=>(match (if draw then none else oZ P (opId rid i) st o) with
    |some eJ=>bD P Eqs Sg (A m) rid draw ops b l eJ (K m)
    |none=>match (if draw then none else uF o) with
    |some x=>kZ st.heap (ρ st.tmps x) fun v h=>bD P Eqs Sg (A m) rid draw ops b l (({ st with heap:=h }:St).put o.dst v) (K m)
    |none=>match (if draw then none else isNil P o) with
    |some (x,want)=>uG st.heap (ρ st.tmps x) want fun v=>bD P Eqs Sg (A m) rid draw ops b l (st.put o.dst v) (K m)
    |none=>if draw then cV P Eqs Sg (A m) (opId rid i) (gW (ahead rid (b.getD i 0) st.heap) (gX ops b i st.tmps o)) st.tmps o fun e =>
     if(gP true rid ops b i (b.getD i 0) (gQ (gX ops b i st.tmps o) (ahead rid (b.getD i 0) st.heap) e)&&nk (gX ops b i st.tmps o) e)=true then
      bD P Eqs Sg (A m) rid draw ops b l ({ st with heap:=match gQ (gX ops b i st.tmps o) (ahead rid (b.getD i 0) st.heap) e with | .wr _ h=>h|e=>e.h st.heap }.put o.dst e.v) (K m) else none
     else cV P Eqs Sg (A m) (opId rid i) st.heap st.tmps o fun e =>
     if gP false rid ops b i (2 ^ i-1) e then bD P Eqs Sg (A m) rid draw ops b l ({ st with heap:=match e with | .wr _ h=>h|e=>e.h st.heap }.put o.dst e.v) (K m) else none)=some r:=by
   intro st h
   split at h
   ·rename_i eJ oi
    try simp only[oi]
    exact ih _ r h
   rename_i oi
   split at h
   ·rename_i x DS
    try simp only[oi,DS]
    exact Kb (fun v h y hy=>ih _ y hy) h
   rename_i DS
   split at h
   ·rename_i x want ZU
    try simp only[oi,DS,ZU]
    exact Qd (fun v y hy=>ih _ y hy) h
   rename_i ZU
   try simp only[oi,DS,ZU]
   cases draw with
   |true =>
    simp only[if_true]at h ⊢
    rw[lq]at h
    obtain⟨e,h1,h2⟩:=Option.bind_eq_some_iff.1 h
    by_cases hc:(gP true rid ops b i (b.getD i 0) (gQ (gX ops b i st.tmps o) (ahead rid (b.getD i 0) st.heap) e)&&nk (gX ops b i st.tmps o) e)=true
    ·rw[if_pos hc]at h2
     refine(Hi hA h1).and (ih _ r h2) fun m h3 h4=>?_
     rw[lq,h3,Option.bind_some,if_pos hc]
     exact h4
    ·rw[if_neg hc]at h2;cases h2
   |false =>
    simp only[Bool.false_eq_true,if_false]at h ⊢
    rw[lq]at h
    obtain⟨e,h1,h2⟩:=Option.bind_eq_some_iff.1 h
    by_cases hc:gP false rid ops b i (2 ^ i-1) e=true
    ·rw[if_pos hc]at h2
     refine(Hi hA h1).and (ih _ r h2) fun m h3 h4=>?_
     rw[lq,h3,Option.bind_some,if_pos hc]
     exact h4
    ·rw[if_neg hc]at h2;cases h2
  simp only[bD]at he ⊢
  split at he
  ·rename_i hg
   try simp only[hg]
   exact run _ he
  ·rename_i j want hg
   try simp only[hg]
   split at he
   ·cases he
   ·rename_i d hd
    try simp only[hd]
    split at he
    ·rename_i t ht
     try simp only[ht]
     cases t<;>cases want<;>simp only[cond_true,cond_false,if_true,if_false,Bool.false_eq_true]at he ⊢<;>first|exact run _ he|exact ih _ r he
    ·rename_i ht
     try simp only[ht]
     exact ih _ r he
    ·cases he
theorem C9{A:Nat→FT}{L:FT}(hA:To A L){n rid:Nat}{ops:Array Oper}{draw:Bool}{K:Nat→St→Option R}{KL:St→Option R}(hK:ToK K KL){st:St}{r:R}
  (he:iq P Eqs Sg L n rid ops draw st KL=some r):uy fun m=>iq P Eqs Sg (A m) n rid ops draw st (K m)=some r:=by
 unfold iq at he ⊢
 by_cases hc:((ops.all fun o=>im n o)&&(!draw || (uC ops (if draw then Region.before ops else #[])&&(Ak ops (if draw then Region.before ops else #[])&&cc (ops.toList.filterMap (·.dst)))))&&decide (ops.size≤128))=true
 ·dsimp only at he ⊢
  rw[if_pos hc]at he
  refine(Be hA hK _ _ r he).imp fun m hm=>?_
  rw[if_pos hc]
  exact hm
 ·dsimp only at he
  rw[if_neg hc]at he;cases he
theorem gK{A:Nat→FT}{L:FT}(hA:To A L){n:Nat}{ann:Nat→Option Shape}{J:Nat→(sh:Shape)→List Item→sh.T→Option R}{JL:(sh:Shape)→List Item→sh.T→Option R}(hJ:ToJ J JL){ret:St→Option R} :
  ∀(fu:Nat) (items:List Item) (st:St) (r:R),aB P Eqs Sg L n ann JL ret fu items st=some r→uy fun m=>aB P Eqs Sg (A m) n ann (J m) ret fu items st=some r
 |0,items,st,r,he=>by cases items<;>simp only[aB]at he<;>cases he
 |fu+1,[],st,r,he=>.now fun m=>by simpa only[aB] using he
 |fu+1,it::Nq,st,r,he=>by
  have ih:=gK hA (n:=n) (ann:=ann) hJ (ret:=ret) fu
  cases it with
  |inBlock id=>simp only[aB]at he ⊢;exact ih _ _ _ he
  |inScope c=>simp only[aB]at he ⊢;exact ih _ _ _ he
  |inLoop c =>
   simp only[aB]at he ⊢
   split at he
   ·cases he
   ·rename_i sh hsh
    try simp only[hsh]
    split at he
    ·rename_i x hx
     try simp only[hx]
     exact hJ _ _ _ _ he
    ·cases he
  |code c =>
   cases c with
   |cond c x y =>
    simp only[aB]at he ⊢
    split at he
    ·rename_i t ht
     try simp only[ht]
     cases t<;>simp only[cond_true,cond_false]at he ⊢<;>exact ih _ _ _ he
    ·cases he
   |exit id =>
    simp only[aB]at he ⊢
    split at he
    ·rename_i k' hk
     try simp only[hk]
     exact ih _ _ _ he
    ·cases he
   |ret=>exact .now fun m=>by simpa only[aB] using he
   |region id ops draw =>
    simp only[aB]at he ⊢
    exact C9 hA (K:=fun m eJ=>aB P Eqs Sg (A m) n ann (J m) ret fu Nq eJ) (fun st y h=>ih Nq st y h) he
   |skip=>simp only[aB]at he ⊢;exact ih _ _ _ he
   |label l=>simp only[aB]at he ⊢;exact ih _ _ _ he
   |seq x y=>simp only[aB]at he ⊢;exact ih _ _ _ he
   |block id c=>simp only[aB]at he ⊢;exact ih _ _ _ he
   |scope c=>simp only[aB]at he ⊢;exact ih _ _ _ he
   |loop c=>simp only[aB]at he ⊢;exact ih _ _ _ he
   |_=>simp only[aB]at he;cases he
  |_=>simp only[aB]at he;cases he
section
variable {An:FuncId→Nat→Option Shape} {G:(f:FuncId)→(g:aN)→Option (g.A→Option g.B)}
def XC(F F':FT):Prop:=∀f g x y,F f g x=some y→F' f g x=some y
theorem XC.to{F F':FT}(h:XC F F'):To (fun _=>F') F:=fun f g x y hy=>.now fun _=>h f g x y hy
theorem uy.get{p:Prop}(h:uy fun _=>p):p:=by obtain⟨m,hm⟩:=h;exact hm m (Nat.le_refl _)
theorem oo{F F':FT}(h:XC F F'){f:FuncId}{g:aN}{fn:Func}:∀(n n':Nat) (sh:Shape) (k:List Item) (x:sh.T) (y:g.B),n≤n'→mD P Eqs Sg An F f g fn n sh k x=some y→mD P Eqs Sg An F' f g fn n' sh k x=some y
 |0,_,_,_,_,_,_,hx=>by simp only[mD]at hx;cases hx
 |n+1,0,_,_,_,_,hn,_=>by omega
 |n+1,n'+1,sh,k,x,y,hn,hx=>by
  cases k with
  |nil=>simp only[mD]at hx;cases hx
  |cons it k =>
   cases it with
   |inLoop c =>
    simp only[mD]at hx ⊢
    exact(gK h.to (J:=fun _=>mD P Eqs Sg An F' f g fn n') (JL:=mD P Eqs Sg An F f g fn n) (fun sh k x y hy=>.now fun _=>oo h n n' sh k x y (by omega) hy) _ _ _ _ hx).get
   |_=>simp only[mD]at hx;cases hx
theorem Nr{F F':FT}(h:XC F F'){f:FuncId}{g:aN}{n n':Nat}{x:g.A}{y:g.B}(hn:n≤n')(hx:Jz P Eqs Sg An F f g n x=some y):Jz P Eqs Sg An F' f g n' x=some y:=by
 unfold Jz at hx ⊢
 split at hx
 ·cases hx
 ·rename_i fn c hb
  try simp only[hb]
  split at hx
  ·rename_i hc
   simp only[if_pos hc]
   exact(gK h.to (J:=fun _=>mD P Eqs Sg An F' f g fn n') (JL:=mD P Eqs Sg An F f g fn n) (fun sh k x y hy=>.now fun _=>oo h n n' sh k x y hn hy) _ _ _ _ hx).get
  ·cases hx
theorem zK:∀m,XC (Fn P Eqs Sg An G m) (Fn P Eqs Sg An G (m+1))
 |0,f,g,x,y,hx=>by
  simp only[Fn]at hx ⊢
  split at hx
  ·rename_i u hu;(try simp only[hu]);exact hx
  ·cases hx
 |m+1,f,g,x,y,hx=>by
  rw[Fn]at hx ⊢
  split at hx
  ·rename_i u hu;(try simp only[hu]);exact hx
  ·rename_i hu
   try simp only[hu]
   exact Nr (zK m) (Nat.le_succ m) hx
theorem zL{m m':Nat}(h:m≤m'):XC (Fn P Eqs Sg An G m) (Fn P Eqs Sg An G m'):=by
 induction h with
 |refl=>exact fun _ _ _ _ h=>h
 |step _ ih=>exact fun f g x y hx=>zK _ f g x y (ih f g x y hx)
variable (P Eqs Sg An G) in
open Classical in
noncomputable def Fix:FT:=fun f g x=>if h:∃m y,Fn P Eqs Sg An G m f g x=some y then some (Classical.choose (Classical.choose_spec h)) else none
theorem Ff:To (Fn P Eqs Sg An G) (Fix P Eqs Sg An G):=fun f g x y hy=>by
 unfold Fix at hy
 split at hy
 ·rename_i h
  cases hy
  exact⟨Classical.choose h,fun m' hm=>zL hm _ _ _ _ (Classical.choose_spec (Classical.choose_spec h))⟩
 ·cases hy
theorem Qe{m:Nat}{f:FuncId}{g:aN}{x:g.A}{y:g.B}(h:Fn P Eqs Sg An G m f g x=some y):Fix P Eqs Sg An G f g x=some y:=by
 have he:∃m y,Fn P Eqs Sg An G m f g x=some y:=⟨m,y,h⟩
 cases hy:Fix P Eqs Sg An G f g x with
 |none=>unfold Fix at hy;rw[dif_pos he]at hy;cases hy
 |some y' =>
  obtain⟨m1,h1⟩:=Ff f g x y' hy
  have h2:=h1 (max m m1) (by omega)
  have h3:=zL (show m≤max m m1 by omega) f g x y h
  rw[h2]at h3
  exact h3
variable (P Eqs Sg An G) in
open Classical in
noncomputable def Lp(f:FuncId)(g:aN)(fn:Func)(sh:Shape)(k:List Item)(x:sh.T):Option g.B :=
 if h:∃m y,mD P Eqs Sg An (Fn P Eqs Sg An G m) f g fn m sh k x=some y then some (Classical.choose (Classical.choose_spec h)) else none
theorem Qf{f:FuncId}{g:aN}{fn:Func}:ToJ (fun m=>mD P Eqs Sg An (Fn P Eqs Sg An G m) f g fn m) (Lp P Eqs Sg An G f g fn):=fun sh k x y hy=>by
 unfold Lp at hy
 split at hy
 ·rename_i h
  cases hy
  exact⟨Classical.choose h,fun m' hm=>oo (zL hm) _ _ _ _ _ _ hm (Classical.choose_spec (Classical.choose_spec h))⟩
 ·cases hy
theorem aac{m:Nat}{f:FuncId}{g:aN}{fn:Func}{sh:Shape}{k:List Item}{x:sh.T}{y:g.B}(h:mD P Eqs Sg An (Fn P Eqs Sg An G m) f g fn m sh k x=some y):Lp P Eqs Sg An G f g fn sh k x=some y:=by
 have he:∃m y,mD P Eqs Sg An (Fn P Eqs Sg An G m) f g fn m sh k x=some y:=⟨m,y,h⟩
 cases hy:Lp P Eqs Sg An G f g fn sh k x with
 |none=>unfold Lp at hy;rw[dif_pos he]at hy;cases hy
 |some y' =>
  obtain⟨m1,h1⟩:=Qf sh k x y' hy
  have h2:=h1 (max m m1) (by omega)
  have h3:=oo (zL (show m≤max m m1 by omega)) m (max m m1) sh k x y (by omega) h
  exact h2.symm.trans h3
theorem Lv{f:FuncId}{g:aN}{x:g.A}{y:g.B}{fn:Func}{c:Code}(hG:G f g=none)(hb:body P (f%1000)=some (fn,c))(hc:(decide (g.ps.length≤fn.ntmps)&&decide (g.bs.length≤8))=true)
  (h:aB P Eqs Sg (Fix P Eqs Sg An G) fn.ntmps (An f) (Lp P Eqs Sg An G f g fn) (qN P g fn) fuel [.code c] (entry g x)=some y):Fix P Eqs Sg An G f g x=some y:=by
 obtain⟨m,hm⟩:=gK (Ff (P:=P) (Eqs:=Eqs) (Sg:=Sg) (An:=An) (G:=G)) (Qf (f:=f) (g:=g) (fn:=fn)) _ _ _ _ h
 refine Qe (m:=m+1) ?_
 simp only[Fn,hG]
 unfold Jz
 simp only[hb,if_pos hc]
 exact hm m (Nat.le_refl _)
theorem D0{f:FuncId}{g:aN}{x:g.A}{y:g.B}{u:g.A→Option g.B}(hG:G f g=some u)(h:u x=some y):Fix P Eqs Sg An G f g x=some y:=by
 refine Qe (m:=0) ?_
 simp only[Fn,hG]
 exact h
theorem Qg{f:FuncId}{g:aN}{fn:Func}{sh:Shape}{c:Code}{k:List Item}{x:sh.T}{y:g.B}
  (h:aB P Eqs Sg (Fix P Eqs Sg An G) fn.ntmps (An f) (Lp P Eqs Sg An G f g fn) (qN P g fn) fuel (.code c::.inLoop c::k) (aq sh x)=some y):Lp P Eqs Sg An G f g fn sh (.inLoop c::k) x=some y:=by
 obtain⟨m,hm⟩:=gK (Ff (P:=P) (Eqs:=Eqs) (Sg:=Sg) (An:=An) (G:=G)) (Qf (f:=f) (g:=g) (fn:=fn)) _ _ _ _ h
 refine aac (m:=m+1) ?_
 simp only[mD]
 refine(gK (L:=Fn P Eqs Sg An G m) (XC.to (zK m)) (J:=fun _=>mD P Eqs Sg An (Fn P Eqs Sg An G (m+1)) f g fn m) (JL:=mD P Eqs Sg An (Fn P Eqs Sg An G m) f g fn m) (fun sh k x y hy=>.now fun _=>oo (zK m) m m sh k x y (Nat.le_refl _) hy) _ _ _ _ (hm m (Nat.le_refl _))).get
theorem zM(hX:∀f g u,Sg f=some g→g.x=some u→iz P (f%1000) u)(CS:∀t k,Eqs t=some k→lL P t k)(Na:∀f g,Sg f=some g→jq P (f%1000))(hm:P.follows .mixedOrders=true)
  (hG:∀f g u x y,Sg f=some g→G f g=some u→u x=some y→DN P f g x y) {f:FuncId} {g:aN} {x:g.A} {y:g.B} (hs:Sg f=some g) (h:Fix P Eqs Sg An G f g x=some y):DN P f g x y:=by
 obtain⟨m,T9⟩:=Ff f g x y h
 exact Hh hX CS Na hm hG m f g x y hs (T9 m (Nat.le_refl _))
end
end Go.Vs
namespace Go.Vs
open Go.Proofs
abbrev ae:=((Int×Int)×Int)
abbrev ID:=(Int×Int)
abbrev ah:=(ID×((List ae)×(ByteArray×Int)))
abbrev ai:=(ID×(ByteArray×Int))
abbrev aj:=((List ah)×(List ai))
abbrev aA:=(ae×ae)
abbrev StateT:=(aj×(List aA))
abbrev nF:=(ID×ae)
abbrev aZ:=(Int×(ID×(ID×(ID×(nF×(nF×(Bool×(ByteArray×Int))))))))
abbrev aV:=((List ah)×((List ai)×((List aA)×Unit)))
abbrev lI{α:Type}(l:List α):Int:=((l.length:Nat):Int)
abbrev wI(n:Int):Int:=IntKind.wrap .i64 n
abbrev OI:ID:=(0,0)
abbrev OD:ae:=(OI,0)
abbrev OC:nF:=(OI,OD)
abbrev OB:ByteArray:=⟨#[]⟩
abbrev OS:StateT:=(([],[]),[])
abbrev OW:aV:=([],([],([],())))
abbrev k13:K:=(.pair .str (.int .u64))
abbrev gT:K:=(.pair (.int .i64) (.int .i64))
abbrev k68:K:=(.pair .str (.pair (.int .i64) .bool))
abbrev bp:K:=(.pair gT (.int .i64))
abbrev k7:K:=(.pair (.int .i64) (.pair (.int .i64) (.pair .bool (.int .u8))))
abbrev dK:K:=(.pair gT (.pair .str (.int .i64)))
abbrev OT:K:=(.pair gT bp)
abbrev cX:K:=(.pair bp bp)
abbrev dh:K:=(.pair gT (.pair (.sl bp) (.pair .str (.int .i64))))
abbrev di:K:=(.pair (.sl dh) (.sl dK))
abbrev mA:K:=(.pair di (.sl cX))
abbrev iZ:K:=(.pair (.int .i64) (.pair gT (.pair gT (.pair gT (.pair OT (.pair OT (.pair .bool (.pair .str (.int .i64)))))))))
abbrev Da:K:=(.one (.sl iZ))
def pJ(xs:List ah)(ys:List ai):Bool:=decide (xs.length≤50000000)&&(decide (ys.length≤50000000)&&xs.all fun v=>decide (v.2.1.length≤50000000))
def Fg(h:Heap)(id:Nat):List AV→Option (Bool×bI)
 |[.agg [.bH a,.bH b]]=>match dS h (.row 52 dh) (.bH a),dS h (.row 118 dK) (.bH b) with
  |some xs,some ys=>if a=b then none else some (pJ xs ys,.new (.agg [.bH (id+128),.bH (id+129)]) [(id+128,.own (.row 52 dh) xs),(id+129,.own (.row 118 dK) ys)])
  |_,_=>none
 |_=>none
def Kc:aN:={ ps:=[.val mA,.val iZ],bs:=[],rs:=[.val mA,.val (.int .i64)] }
def Ns:aN:={ ps:=[.val mA,.val iZ],bs:=[],rs:=[.val mA,.val (.int .i64)] }
def qq:aN:={ ps:=[.val di,.val gT],bs:=[],rs:=[.val dh,.val .bool] }
def yX:aN:={ ps:=[.val gT],bs:=[],rs:=[.val .bool] }
def tX:aN:={ ps:=[.val di,.val bp],bs:=[],rs:=[.val gT,.val .bool] }
def wQ:aN:={ ps:=[.val di,.val gT],bs:=[],rs:=[.val dK,.val .bool] }
def Hj:aN:={ ps:=[.val di,.val bp],bs:=[],rs:=[.val (.sl bp)] }
def Db:aN:={ ps:=[.val bp],bs:=[],rs:=[.val bp] }
def q8:aN:={ ps:=[.val (.sl bp),.val bp],bs:=[],rs:=[.val (.int .i64)] }
def Nt:aN:={ ps:=[.val (.sl bp),.val bp],bs:=[],rs:=[.val bp,.val .bool] }
def wR:aN:={ ps:=[.val .str],bs:=[],rs:=[.val .bool] }
def yY:aN:={ ps:=[.val (.int .i64)],bs:=[],rs:=[.val .bool] }
def Qh:aN:={ ps:=[.val mA,.val Da],bs:=[],rs:=[.val mA,.val (.int .i64)] }
def Hk:aN:={ ps:=[.val di],bs:=[],rs:=[.own (.row 50 (.sl bp))] }
def Hl:aN:={ ps:=[.val di],bs:=[],rs:=[.val (.int .i64)] }
def Hm:aN:={ ps:=[.val mA,.val Da],bs:=[],rs:=[.val mA,.val (.int .i64)] }
def Dc:aN:={ ps:=[.val di],bs:=[],rs:=[.agg [.own (.row 52 dh),.own (.row 118 dK)]] }
def Fh:aN:={ ps:=[.val di],bs:=[],rs:=[.val (.int .i64)] }
def Ho:aN:={ ps:=[.val Da],bs:=[],rs:=[.val (.int .i64)] }
def Kd:aN:={ ps:=[.val iZ],bs:=[],rs:=[.val (.int .i64)] }
def Dd:aN:={ ps:=[.val mA,.val (.sl iZ)],bs:=[],rs:=[.val mA,.val (.int .i64)] }
def Nu:aN:={ ps:=[.val iZ],bs:=[],rs:=[.val (.int .i64)] }
def Fi:aN:={ ps:=[.val di,.val dh],bs:=[],rs:=[.val di] }
def pK:aN:={ ps:=[.val di,.val gT,.val gT],bs:=[],rs:=[.val di] }
def Qi:aN:={ ps:=[.val mA,.val iZ],bs:=[],rs:=[.val mA,.val (.int .i64)] }
def Qj:aN:={ ps:=[.val mA,.val iZ],bs:=[],rs:=[.val mA,.val (.int .i64)] }
def Qk:aN:={ ps:=[.val mA,.val iZ],bs:=[],rs:=[.val mA,.val (.int .i64)] }
def yZ:aN:={ ps:=[.val mA,.val iZ],bs:=[],rs:=[.val mA,.val (.int .i64)] }
def Bf:aN:={ ps:=[.val mA,.val iZ],bs:=[],rs:=[.val mA,.val (.int .i64)] }
def Nv:aN:={ ps:=[.val di,.val bp],bs:=[],rs:=[.val bp,.val .bool] }
def De:aN:={ ps:=[.val di,.val gT],bs:=[],rs:=[.val (.int .i64)] }
def sM:aN:={ ps:=[.val di],bs:=[],rs:=[.own (.row 3 (.int .i64))] }
def Hq:aN:={ ps:=[.val (.sl bp),.val (.sl bp)],bs:=[],rs:=[.val .bool] }
def Hr:aN:={ ps:=[.val Da],bs:=[],rs:=[.val (.int .i64)] }
def Fj:aN:={ ps:=[.val di],bs:=[],rs:=[.own (.row 33 bp)] }
def Hs:aN:={ ps:=[.val di],bs:=[],rs:=[.agg [.own (.row 52 dh),.own (.row 118 dK)]] }
def Ke:aN:={ ps:=[.val (.sl cX)],bs:=[],rs:=[.own (.row 54 cX)] }
def Kf:aN:={ ps:=[.val bp,.val bp],bs:=[],rs:=[.val (.int .i64)] }
def qt:aN:={ ps:=[.val di],bs:=[],rs:=[.val (.int .i64)] }
def Fk:aN:={ ps:=[.val di],bs:=[],rs:=[.val (.int .i64)] }
def Ql:aN:={ ps:=[.val iZ],bs:=[],rs:=[.val iZ,.val (.int .i64)] }
def Bg:aN:={ ps:=[.ref,.val iZ],bs:=[.box 155 [.own (.row 52 dh),.own (.row 118 dK),.val (.sl cX)]],rs:=[.val (.int .i64)] }
def Nw:aN:={ ps:=[.val iZ],bs:=[],rs:=[.val iZ] }
def Nx:aN:={ ps:=[.val OT],bs:=[],rs:=[.val .bool] }
def Fl:aN:={ ps:=[.val gT,.val gT],bs:=[],rs:=[.val (.int .i64)] }
def Ny:aN:={ ps:=[.val mA,.val OT],bs:=[],rs:=[.val OT,.val (.int .i64)] }
def y0:aN:={ ps:=[.val di,.val dK],bs:=[],rs:=[.val di] }
def zc:aN:={ ps:=[.val di,.val OT,.val bp],bs:=[],rs:=[.val di] }
def zd:aN:={ ps:=[.val (.sl cX),.val cX],bs:=[],rs:=[.val (.sl cX)] }
def Nz:aN:={ ps:=[.val di,.val bp],bs:=[],rs:=[.val bp] }
def NA:aN:={ ps:=[.val di,.val bp],bs:=[],rs:=[.val di] }
def Ht:aN:={ ps:=[.val di,.val bp,.val bp],bs:=[],rs:=[.val di] }
def pM:aN:={ ps:=[.val (.sl bp)],bs:=[],rs:=[.own (.row 33 bp)] }
def Qm:aN:={ ps:=[.val di,.val bp],bs:=[],rs:=[.val bp,.val .bool] }
def NB:aN:={ ps:=[.val (.sl dh)],bs:=[],rs:=[.own (.row 52 dh)] }
def NC:aN:={ ps:=[.val (.sl dK)],bs:=[],rs:=[.own (.row 118 dK)] }
def ze:aN:={ ps:=[.val (.sl bp)],bs:=[],rs:=[.own (.row 33 bp)] }
def zg:aN:={ ps:=[.val di],bs:=[],rs:=[.val (.sl gT)] }
def vf:aN:={ ps:=[.val (.sl gT)],bs:=[],rs:=[.val .bool] }
def k9:aN:={ ps:=[.val di],bs:=[],rs:=[.val .bool] }
def Fm:aN:={ ps:=[.val di],bs:=[],rs:=[.val (.int .i64),.val (.int .i64),.val (.int .i64),.val (.int .i64)] }
def q9:aN:={ ps:=[.val gT],bs:=[],rs:=[.val .bool] }
def Df:aN:={ ps:=[.val OT],bs:=[],rs:=[.val .bool] }
def wS:aN:={ ps:=[.val .str],bs:=[],rs:=[.val .bool] }
def Hu:aN:={ ps:=[.val (.int .i64)],bs:=[],rs:=[.val .bool] }
def Hv:aN:={ ps:=[.ref,.val dh],bs:=[.box 155 [.own (.row 52 dh),.own (.row 118 dK),.val (.sl cX)]],rs:=[.val (.int .i64)] }
def Qn:aN:={ ps:=[.ref,.val iZ],bs:=[.box 155 [.own (.row 52 dh),.own (.row 118 dK),.val (.sl cX)]],rs:=[.val (.int .i64)] }
def oq:aN:={ ps:=[.ref,.val iZ],bs:=[.box 155 [.own (.row 52 dh),.own (.row 118 dK),.val (.sl cX)]],rs:=[.val (.int .i64)] }
def Bh:aN:={ ps:=[.ref,.val iZ],bs:=[.box 155 [.own (.row 52 dh),.own (.row 118 dK),.val (.sl cX)]],rs:=[.val (.int .i64)] }
def zh:aN:={ ps:=[.ref,.val iZ],bs:=[.box 155 [.own (.row 52 dh),.own (.row 118 dK),.val (.sl cX)]],rs:=[.val (.int .i64)] }
def rf:aN:={ ps:=[.ref,.val iZ],bs:=[.box 155 [.own (.row 52 dh),.own (.row 118 dK),.val (.sl cX)]],rs:=[.val (.int .i64)] }
def Qo:aN:={ ps:=[.ref,.val iZ],bs:=[.box 155 [.own (.row 52 dh),.own (.row 118 dK),.val (.sl cX)]],rs:=[.val (.int .i64)] }
def Qp:aN:={ ps:=[.val bp],bs:=[],rs:=[.val .bool] }
def Hw:aN:={ ps:=[.val mA,.val bp],bs:=[],rs:=[.val bp] }
def Dg:aN:={ ps:=[.val di,.val gT,.val (.sl bp)],bs:=[],rs:=[.val di] }
def yv:aN:={ ps:=[.val (.sl bp),.val bp,.val bp],bs:=[],rs:=[.own (.row 33 bp)] }
def td:aN:={ ps:=[.val (.sl cX),.val bp],bs:=[],rs:=[.val bp,.val .bool] }
def yw:aN:={ ps:=[.val (.sl bp),.val bp],bs:=[],rs:=[.own (.row 33 bp)] }
def Hy:aN:={ ps:=[.val (.sl bp),.val bp,.val bp],bs:=[],rs:=[.own (.row 33 bp)] }
def Hz:aN:={ ps:=[.val (.sl bp),.val bp],bs:=[],rs:=[.val bp,.val .bool] }
def ou:aN:={ ps:=[.val di,.val bp],bs:=[],rs:=[.val (.int .i64)] }
def HA:aN:={ ps:=[.val bp],bs:=[],rs:=[.val .bool] }
def qj:aN:={ ps:=[.ref,.val gT],bs:=[.box 155 [.own (.row 52 dh),.own (.row 118 dK),.val (.sl cX)]],rs:=[.val (.int .i64),.val .bool] }
def VZ:aN:={ ps:=[],bs:=[],rs:=[],x:=some (O9 52 dh) }
def V5:aN:={ ps:=[],bs:=[],rs:=[],x:=some (TT 52 dh) }
def yx:aN:={ ps:=[.ref,.val gT],bs:=[.box 155 [.own (.row 52 dh),.own (.row 118 dK),.val (.sl cX)]],rs:=[.val (.int .i64)] }
def Bi:aN:={ ps:=[.val gT],bs:=[],rs:=[.val bp,.val bp] }
def HB:aN:={ ps:=[.val mA,.val OT],bs:=[],rs:=[.val OT,.val (.int .i64)] }
def Bj:aN:={ ps:=[.val (.sl bp),.val bp,.val bp],bs:=[],rs:=[.own (.row 33 bp)] }
def Bk:aN:={ ps:=[.val di],bs:=[],rs:=[.val .bool] }
def mU:aN:={ ps:=[.ref,.val gT],bs:=[.box 155 [.own (.row 52 dh),.own (.row 118 dK),.val (.sl cX)]],rs:=[.val (.int .i64),.val .bool] }
def Bl:aN:={ ps:=[.ref,.val bp,.val bp],bs:=[.box 155 [.own (.row 52 dh),.own (.row 118 dK),.val (.sl cX)]],rs:=[] }
def Bm:aN:={ ps:=[.ref,.val bp],bs:=[.box 155 [.own (.row 52 dh),.own (.row 118 dK),.val (.sl cX)]],rs:=[.val bp] }
def lZ:aN:={ ps:=[.ref,.val bp],bs:=[.box 155 [.own (.row 52 dh),.own (.row 118 dK),.val (.sl cX)]],rs:=[.eV 0 [(0,5,0)]] }
def Bn:aN:={ ps:=[.val (.sl bp),.val bp],bs:=[],rs:=[.own (.row 33 bp)] }
def V6:aN:={ ps:=[],bs:=[],rs:=[],x:=some (TT 118 dK) }
def tf:aN:={ ps:=[.val (.sl bp),.val bp,.val bp],bs:=[],rs:=[.own (.row 33 bp)] }
def ov:aN:={ ps:=[.val bp],bs:=[],rs:=[.val bp] }
def rh:aN:={ ps:=[.val (.sl bp)],bs:=[],rs:=[.own (.row 33 bp)] }
def HC:aN:={ ps:=[.ref,.val iZ],bs:=[.box 155 [.own (.row 52 dh),.own (.row 118 dK),.val (.sl cX)]],rs:=[.eV 0 [(0,5,3),(1,4,2)],.eV 0 [(0,5,4),(1,4,3)]] }
def D1:aN:={ ps:=[.val dh,.val gT],bs:=[],rs:=[.val (.int .i64)] }
def Bo:aN:={ ps:=[.val gT,.val gT],bs:=[],rs:=[.val (.int .i64)] }
def V7:aN:={ ps:=[],bs:=[],rs:=[],x:=some (O9 118 dK) }
def tg:aN:={ ps:=[.val di,.val gT],bs:=[],rs:=[.val dh,.val .bool] }
def yy:aN:={ ps:=[.val mA,.val bp],bs:=[],rs:=[.val bp] }
def vg:aN:={ ps:=[.val (.sl bp),.val bp],bs:=[],rs:=[.val .bool] }
def l6:aN:={ ps:=[.val (.sl bp),.val bp],bs:=[],rs:=[.val (.int .i64)] }
def ow:aN:={ ps:=[.val (.sl (.sl bp))],bs:=[],rs:=[.own (.row 33 bp)] }
def HD:aN:={ ps:=[.val di],bs:=[],rs:=[.val (.int .i64)] }
def D2:aN:={ ps:=[.val dK,.val gT],bs:=[],rs:=[.val (.int .i64)] }
def HE:aN:={ ps:=[.val (.sl cX),.val cX],bs:=[],rs:=[.own (.row 54 cX)] }
def Bp:aN:={ ps:=[.val (.sl bp),.val bp],bs:=[],rs:=[.val bp,.val .bool] }
def D3:aN:={ ps:=[.val bp,.val bp],bs:=[],rs:=[.val (.int .i64)] }
def ox:aN:={ ps:=[.val (.sl (.sl bp))],bs:=[],rs:=[.own (.row 33 bp)] }
def vh:aN:={ ps:=[.val (.sl (.int .i64))],bs:=[],rs:=[.val (.int .i64)] }
def Bq:aN:={ ps:=[.val (.int .i64),.val (.int .i64)],bs:=[],rs:=[.val (.int .i64)] }
def HF:aN:={ ps:=[.val dh],bs:=[],rs:=[.val gT] }
def th:aN:={ ps:=[.val di,.val bp],bs:=[],rs:=[.val gT,.val .bool] }
def HH:aN:={ ps:=[.val (.sl cX),.val bp],bs:=[],rs:=[.val bp,.val .bool] }
def HI:aN:={ ps:=[.val di],bs:=[],rs:=[.val (.int .i64),.val (.int .i64),.val (.int .i64),.val (.int .i64)] }
def D4:aN:={ ps:=[.val cX,.val bp],bs:=[],rs:=[.val (.int .i64)] }
def V8:aN:={ ps:=[],bs:=[],rs:=[],x:=some (O9 54 cX) }
def Br:aN:={ ps:=[.val (.sl bp),.val bp,.val (.int .i64)],bs:=[],rs:=[.val bp,.val .bool] }
def V9:aN:={ ps:=[],bs:=[],rs:=[],x:=some (Lj 33 bp) }
def Bu:aN:={ ps:=[.val (.int .i64)],bs:=[],rs:=[.val .bool] }
def HJ:aN:={ ps:=[.val cX,.ref],bs:=[.box 33 [.val (.int .i64),.val (.int .i64),.val (.int .i64)]],rs:=[.val .bool] }
def HK:aN:={ ps:=[.val dh],bs:=[],rs:=[.val .bool] }
def yz:aN:={ ps:=[.val di],bs:=[],rs:=[.own (.row 50 (.sl bp))] }
def yC:aN:={ ps:=[.val di],bs:=[],rs:=[.val (.int .i64)] }
def vj:aN:={ ps:=[.val di],bs:=[],rs:=[.own (.row 33 bp)] }
def Wa:aN:={ ps:=[.val di],bs:=[],rs:=[.own (.row 28 (.sl gT))] }
def D5:aN:={ ps:=[.val di,.val bp],bs:=[],rs:=[.val bp,.val .bool] }
def hZ:aN:={ ps:=[.val di],bs:=[],rs:=[.own (.row 3 (.int .i64))] }
def yD:aN:={ ps:=[.val di,.val bp],bs:=[],rs:=[.val bp,.val .bool] }
def HL:aN:={ ps:=[.own,.val (.int .i64),.val (.int .i64)],bs:=[.own (.row 3 (.int .i64))],rs:=[] }
def ri:aN:={ ps:=[.own,.val (.int .i64)],bs:=[.own (.row 3 (.int .i64))],rs:=[.val (.int .i64)] }
def HM:aN:={ ps:=[.val (.sl bp),.val bp],bs:=[],rs:=[.val bp,.val .bool] }
def jt:aN:={ ps:=[.val (.sl dh),.val gT,.Gh 207 0],bs:=[],rs:=[.val (.int .i64),.val .bool] }
def ju:aN:={ ps:=[.val (.sl dK),.val gT,.Gh 214 0],bs:=[],rs:=[.val (.int .i64),.val .bool] }
def kt:aN:={ ps:=[.val (.sl bp),.Gh 195 0],bs:=[],rs:=[.val bp] }
def ku:aN:={ ps:=[.val (.sl dh),.Gh 109 0,.val gT],bs:=[],rs:=[.val dh,.val .bool] }
def jv:aN:={ ps:=[.val (.sl cX),.val bp,.Gh 232 0],bs:=[],rs:=[.val (.int .i64),.val .bool] }
def jw:aN:={ ps:=[.val (.sl cX),.Gh 245 1],bs:=[.box 33 [.val bp]],rs:=[.val (.int .i64)] }
def kx:aN:={ ps:=[.val (.sl dh),.Gh 239 0],bs:=[],rs:=[.val (.int .i64)] }
def HN:aN:={ ps:=[],bs:=[],rs:=[],x:=some Fg }
def Qq:aN:={ ps:=[],bs:=[],rs:=[] }
abbrev k98:K:=(.pair Da gT)
abbrev k99:K:=(.pair mA (.pair (.int .i64) (.sl Da)))
abbrev jx:=(StateT×(Int×((List (List aZ))×Unit)))
abbrev Q0:=((Bool×Unit)×Unit)
abbrev Q1:=((StateT×(Int×Unit))×Unit)
abbrev Q2:=((Int×Unit)×Unit)
abbrev Q3:=(((List aZ)×Unit)×Unit)
abbrev Q4:=((StateT×Unit)×Unit)
abbrev Q5:=((aj×Unit)×Unit)
abbrev Q6:=(((List ae)×Unit)×Unit)
abbrev Q7:=((ah×(Bool×Unit))×Unit)
abbrev Q8:=(List aZ)
abbrev Q9:=((Int×Unit)×(jx×Unit))
abbrev Ur:=((ai×(Bool×Unit))×Unit)
abbrev Fp:=((ae×Unit)×Unit)
abbrev Kg:=((ae×(Bool×Unit))×Unit)
abbrev Qr:=((ID×(Bool×Unit))×Unit)
abbrev Kh:=((Int×(Bool×Unit))×(aV×Unit))
abbrev Wb:=((StateT×(aZ×Unit))×Unit)
abbrev Q16:=((StateT×((List aZ)×Unit))×Unit)
abbrev Q17:=(((List (List aZ))×Unit)×Unit)
abbrev Wc:=(((List aA)×Unit)×Unit)
abbrev Qs:=((Int×Unit)×(aV×Unit))
abbrev TH:=((aj×(ae×Unit))×Unit)
abbrev Us:=(((List ae)×(ae×Unit))×Unit)
abbrev We:=((aZ×Unit)×(aV×Unit))
abbrev Q23:=((StateT×Unit)×((List (List aZ))×Unit))
abbrev Q24:=(((List aZ)×(Int×Unit))×Unit)
abbrev Q25:=(((List (List ae))×Unit)×Unit)
abbrev Q26:=((((List ah)×((List ai)×Unit))×Unit)×Unit)
abbrev Q27:=((nF×Unit)×Unit)
abbrev Q28:=((Int×(Int×Unit))×(jx×Unit))
abbrev Q29:=((StateT×((List (List aZ))×Unit))×Unit)
abbrev Q30:=((aj×(ID×Unit))×Unit)
abbrev Q31:=(((Option ((Fin 1)×Nat))×Unit)×(aV×Unit))
abbrev Q32:=(Unit×(jx×Unit))
abbrev Q33:=((ae×(ae×Unit))×Unit)
abbrev Q34:=(((List ae)×(ae×(ae×Unit)))×Unit)
abbrev Q35:=((Int×Unit)×((List Int)×Unit))
abbrev Q36:=((StateT×(Int×Unit))×(jx×Unit))
abbrev Q37:=(((List Bool)×Unit)×((List (List aZ))×Unit))
abbrev Q38:=((Bool×(Int×Unit))×(((StateT×Unit)×((aZ×Unit)×(aV×(((List ah)×((List ai)×Unit))×Unit))))×Unit))
abbrev Q39:=((Int×Unit)×((aV×((ae×Unit)×((ae×Unit)×((ae×Unit)×Unit))))×Unit))
def akI(_:Heap)(id:Nat):List AV→Option (Bool×bI)
 |[]=>some (true,.new (.ref (id+128) 0 0 0) [(id+128,.box 100 (enc k99 (nQ k99)))])
 |_=>none
def ajc(h:Heap)(id:Nat):List AV→Option (Bool×bI)
 |[.ref i 0 0 0]=>match Dx h i 100 with
  |some cs=>match dG k99 cs with
   |some x=>some (true,.new (.ref (id+128) 0 0 0) [(id+128,.box 100 (enc k99 x))])
   |none=>none
  |none=>none
 |_=>none
def vl:aN:={ ps:=[.val mA,.val Da],bs:=[],rs:=[.val .bool] }
def HO:aN:={ ps:=[],bs:=[],rs:=[.val .bool] }
def l8:aN:={ ps:=[.val mA],bs:=[],rs:=[.val .bool] }
def Bv:aN:={ ps:=[.val mA,.val iZ],bs:=[],rs:=[.own (.row 37 iZ)] }
def HP:aN:={ ps:=[.val Da],bs:=[],rs:=[.val Da] }
def yE:aN:={ ps:=[.val mA,.val Da],bs:=[],rs:=[.own (.row 37 iZ),.val (.int .i64)] }
def yF:aN:={ ps:=[.val (.sl iZ),.val (.sl iZ)],bs:=[],rs:=[.val .bool] }
def ti:aN:={ ps:=[.val gT,.val .bool,.val .str,.val (.int .i64)],bs:=[],rs:=[.own (.row 37 iZ)] }
def HQ:aN:={ ps:=[.val di,.val iZ],bs:=[],rs:=[.own (.row 37 iZ)] }
def oy:aN:={ ps:=[.val di,.val iZ],bs:=[],rs:=[.own (.row 37 iZ)] }
def HR:aN:={ ps:=[.val di,.val iZ],bs:=[],rs:=[.own (.row 37 iZ)] }
def Bw:aN:={ ps:=[.val di,.val gT],bs:=[],rs:=[.val dK,.val .bool] }
def D6:aN:={ ps:=[.val di,.val bp,.val bp],bs:=[],rs:=[.val OT] }
def mV:aN:={ ps:=[.val (.sl (.sl iZ))],bs:=[],rs:=[.own (.row 37 iZ)] }
def HS:aN:={ ps:=[.val dK],bs:=[],rs:=[.val gT] }
def ky:aN:={ ps:=[.val (.sl dK),.Gh 138 0,.val gT],bs:=[],rs:=[.val dK,.val .bool] }
def Wg:aN:={ ps:=[],bs:=[],rs:=[],x:=some (Lj 37 iZ) }
def ND:aN:={ ps:=[],bs:=[],rs:=[] }
def NF:aN:={ ps:=[],bs:=[],rs:=[] }
def sgs:List (Nat×aN):=[(73,Kc),(45,Ns),(79,qq),(87,yX),(124,tX),(92,wQ),(192,Hj),(121,Db),(144,q8),(148,Nt),(91,wR),(90,yY),(63,Qh),(164,Hk),(165,Hl),(49,Hm),(21,Dc),(72,Fh),(69,Ho),(104,Kd),(103,Dd),(46,Nu),(80,Fi),(81,pK),(82,Qi),(83,Qj),(84,Qk),(85,yZ),(86,Bf),(216,Nv),(217,De),(193,sM),(98,Hq),(66,Hr),(191,Fj),(96,Hs),(97,Ke),(71,Kf),(106,qt),(107,Fk),(132,Ql),(131,Bg),(88,Nw),(89,Nx),(105,Fl),(114,Ny),(115,y0),(116,zc),(117,zd),(118,Nz),(119,NA),(120,Ht),(122,pM),(234,Qm),(127,NB),(128,NC),(110,ze),(133,zg),(134,vf),(135,k9),(136,Fm),(159,q9),(160,Df),(161,wS),(162,Hu),(152,Hv),(153,Qn),(154,oq),(155,Bh),(156,zh),(157,rf),(158,Qo),(123,Qp),(143,Hw),(145,Dg),(146,yv),(147,td),(126,yw),(149,Hy),(248,Hz),(163,ou),(190,HA),(175,qj),(176,VZ),(177,V5),(178,yx),(179,Bi),(180,HB),(181,Bj),(172,Bk),(182,mU),(183,Bl),(184,Bm),(185,lZ),(141,Bn),(186,V6),(187,tf),(188,ov),(169,rh),(189,HC),(207,D1),(208,Bo),(211,V7),(74,tg),(212,yy),(166,vg),(168,l6),(170,ow),(204,HD),(214,D2),(215,HE),(140,Bp),(195,D3),(196,ox),(218,vh),(219,Bq),(109,HF),(139,th),(230,HH),(226,HI),(232,D4),(233,V8),(167,Br),(220,V9),(235,Bu),(245,HJ),(239,HK),(240,yz),(241,yC),(249,vj),(251,Wa),(255,D5),(256,hZ),(258,yD),(259,HL),(260,ri),(261,HM),(208206,jt),(215213,ju),(196194,kt),(110108,ku),(233231,jv),(246244,jw),(240238,kx),(500096,HN),(900025,Qq),(9,vl),(42,HO),(43,l8),(44,Bv),(47,HP),(48,yE),(50,yF),(75,ti),(76,HQ),(77,oy),(78,HR),(111,Bw),(112,D6),(113,mV),(138,HS),(139137,ky),(142,Wg),(2514003,ND),(3537003,NF)]
def Sg(f:FuncId):Option aN:=(sgs.find? (fun p=>p.1==f)).map (fun p=>p.2)
def eqs:List (Nat×K):=[(31,gT),(33,bp),(35,OT),(37,iZ),(118,dK),(54,cX)]
def Eqs(t:TypeId):Option K:=(eqs.find? (fun p=>p.1==t)).map (fun p=>p.2)
def Bx:Shape:=⟨[(6,.int .i64)],[(.slot 2,20000,.box 41 [.val di]),(.slot 3,20001,.box 31 [.val gT]),(.slot 4,20002,.box 52 [.val (.int .i64),.val (.int .i64),.own (.row 33 bp),.val .str,.val (.int .i64)])],[],[]⟩
def By:Shape:=⟨[(6,.int .i64)],[(.slot 2,20000,.box 41 [.val di]),(.slot 3,20001,.box 33 [.val bp]),(.slot 4,20002,.box 31 [.val gT])],[],[]⟩
def Bz:Shape:=⟨[(6,.int .i64)],[(.slot 2,20000,.box 41 [.val di]),(.slot 3,20001,.box 31 [.val gT]),(.slot 4,20002,.box 118 [.val dK])],[],[]⟩
def BA:Shape:=⟨[],[(.slot 2,20000,.box 41 [.val di]),(.slot 3,20001,.box 33 [.val bp]),(.slot 6,20002,.box 33 [.val bp])],[(5,31000,(.row 33 bp))],[]⟩
def BB:Shape:=⟨[(0,.sl bp),(5,.int .i64)],[(.slot 3,20000,.box 33 [.val bp])],[],[]⟩
def BC:Shape:=⟨[(0,.str),(3,.int .i64)],[],[],[]⟩
def wT:Shape:=⟨[(6,.int .i64)],[(.slot 1,20000,.box 41 [.val di])],[(3,31000,(.row 50 (.sl bp))),(4,31001,(.row 33 bp)),(5,31002,(.row 33 bp))],[]⟩
def wU:Shape:=⟨[(4,.int .i64),(5,.int .i64)],[],[(3,31000,(.row 3 (.int .i64)))],[]⟩
def BD:Shape:=⟨[(7,.int .i64)],[(.slot 2,20000,.box 44 [.val mA]),(.slot 3,20001,.box 27 [.val Da]),(.slot 4,20002,.box 44 [.own (.row 52 dh),.own (.row 118 dK),.own (.row 54 cX)])],[],[]⟩
def BE:Shape:=⟨[(4,.int .i64)],[(.slot 1,20000,.box 41 [.val di]),(.slot 2,20001,.box 41 [.own (.row 52 dh),.own (.row 118 dK)]),(.slot 3,20002,.box 41 [.own (.row 52 dh),.own (.row 118 dK)])],[],[]⟩
def BF:Shape:=⟨[(3,.int .i64)],[(.slot 1,20000,.box 27 [.val Da])],[],[]⟩
def BG:Shape:=⟨[(18,.sl iZ),(19,.int .i64),(20,.int .i64)],[(.slot 4,20000,.box 44 [.own (.row 52 dh),.own (.row 118 dK),.own (.row 54 cX)]),(.slot 6,20001,.box 155 [.own (.row 52 dh),.own (.row 118 dK),.val (.sl cX)])],[],[]⟩
def tY:Shape:=⟨[(6,.bool),(7,.int .i64)],[(.slot 2,20000,.box 41 [.val di]),(.slot 3,20001,.box 52 [.val dh]),(.slot 4,20002,.box 41 [.own (.row 52 dh),.own (.row 118 dK)]),(.slot 5,20003,.box 41 [.own (.row 52 dh),.val (.sl dK)])],[],[]⟩
def wV:Shape:=⟨[(8,.int .i64)],[(.slot 3,20000,.box 41 [.val di]),(.slot 4,20001,.box 31 [.val gT]),(.slot 5,20002,.box 31 [.val gT]),(.slot 6,20003,.box 41 [.own (.row 52 dh),.own (.row 118 dK)]),(.slot 7,20004,.box 41 [.own (.row 52 dh),.own (.row 118 dK)])],[],[]⟩
def wW:Shape:=⟨[(9,.int .i64)],[(.slot 3,20000,.box 41 [.val di]),(.slot 5,20001,.box 31 [.val gT]),(.slot 6,20002,.box 41 [.own (.row 52 dh),.own (.row 118 dK)]),(.slot 7,20003,.box 41 [.own (.row 52 dh),.own (.row 118 dK)])],[],[]⟩
def l9:Shape:=⟨[(12,.sl cX),(13,.int .i64)],[(.slot 4,20000,.box 44 [.own (.row 52 dh),.own (.row 118 dK),.own (.row 54 cX)]),(.slot 8,20001,.box 33 [.val bp]),(.slot 9,20002,.box 33 [.val bp]),(.slot 10,20003,.box 33 [.val bp]),(.slot 11,20004,.box 41 [.val di])],[],[]⟩
def rj:Shape:=⟨[(7,.bool),(8,.int .i64)],[(.slot 2,20000,.box 44 [.val mA]),(.slot 3,20001,.box 37 [.val iZ]),(.slot 4,20002,.box 44 [.own (.row 52 dh),.own (.row 118 dK),.own (.row 54 cX)]),(.slot 6,20003,.box 41 [.own (.row 52 dh),.own (.row 118 dK)])],[],[]⟩
def rk:Shape:=⟨[(7,.bool),(9,.int .i64)],[(.slot 2,20000,.box 44 [.val mA]),(.slot 3,20001,.box 37 [.val iZ]),(.slot 4,20002,.box 44 [.own (.row 52 dh),.own (.row 118 dK),.own (.row 54 cX)]),(.slot 6,20003,.box 41 [.own (.row 52 dh),.own (.row 118 dK)])],[],[]⟩
def BH:Shape:=⟨[(5,.int .i64)],[(.slot 2,20000,.box 41 [.val di]),(.slot 3,20001,.box 31 [.val gT])],[],[]⟩
def BI:Shape:=⟨[(4,.int .i64)],[(.slot 1,20000,.box 41 [.val di])],[(3,31000,(.row 3 (.int .i64)))],[]⟩
def wX:Shape:=⟨[(5,.int .i64)],[(.slot 1,20000,.box 41 [.val di])],[(3,31000,(.row 3 (.int .i64)))],[]⟩
def rl:Shape:=⟨[(5,.int .i64),(6,.int .i64)],[(.slot 1,20000,.box 41 [.val di])],[(3,31000,(.row 3 (.int .i64)))],[]⟩
def BJ:Shape:=⟨[(0,.sl bp),(1,.sl bp),(5,.int .i64)],[],[],[]⟩
def BL:Shape:=⟨[(17,.sl iZ),(18,.int .i64),(19,.int .i64)],[],[],[]⟩
def BM:Shape:=⟨[(4,.int .i64)],[(.slot 1,20000,.box 41 [.val di])],[(3,31000,(.row 33 bp))],[]⟩
def BN:Shape:=⟨[(14,.int .i64),(15,.int .i64)],[(.slot 2,20000,.box 41 [.own (.row 52 dh),.own (.row 118 dK)]),(.slot 3,20001,.box 41 [.own (.row 52 dh),.own (.row 118 dK)])],[],[]⟩
def tZ:Shape:=⟨[(6,.bool),(7,.int .i64)],[(.slot 2,20000,.box 41 [.val di]),(.slot 3,20001,.box 118 [.val dK]),(.slot 4,20002,.box 41 [.own (.row 52 dh),.own (.row 118 dK)]),(.slot 5,20003,.box 41 [.val (.sl dh),.own (.row 118 dK)])],[],[]⟩
def kQ:Shape:=⟨[(0,.sl cX),(8,.bool),(9,.int .i64)],[(.slot 3,20000,.box 54 [.val cX])],[(7,31000,(.row 54 cX))],[]⟩
def wY:Shape:=⟨[(0,.sl bp),(3,.int .i64),(4,.int .i64)],[],[],[]⟩
def BO:Shape:=⟨[(0,.sl bp),(3,.int .i64),(6,.int .i64)],[],[(5,31000,(.row 33 bp))],[]⟩
def BP:Shape:=⟨[(4,.int .i64)],[(.slot 1,20000,.box 41 [.val di])],[(3,31000,(.row 31 gT))],[]⟩
def wZ:Shape:=⟨[(5,.int .i64)],[(.slot 1,20000,.box 41 [.val di])],[(3,31000,(.row 31 gT))],[]⟩
def w4:Shape:=⟨[(0,.sl gT),(3,.int .i64)],[],[],[]⟩
def ua:Shape:=⟨[(3,.int .i64)],[(.slot 1,20000,.box 41 [.val di])],[],[]⟩
def w5:Shape:=⟨[(3,.int .i64),(4,.sl bp),(6,.int .i64)],[(.slot 1,20000,.box 41 [.val di])],[],[]⟩
def w6:Shape:=⟨[(9,.int .i64)],[(.slot 1,20000,.box 41 [.val di])],[],[]⟩
def ub:Shape:=⟨[(9,.int .i64),(10,.int .i64)],[(.slot 1,20000,.box 41 [.val di])],[],[]⟩
def uc:Shape:=⟨[(6,.int .i64),(7,.int .i64)],[(.slot 1,20000,.box 41 [.val di])],[],[]⟩
def w7:Shape:=⟨[(0,.str)],[],[(6,31000,.nP)],[]⟩
def ma:Shape:=⟨[(48,.int .i64),(49,.int .i64)],[(.slot 0,1000,.box 155 [.own (.row 52 dh),.own (.row 118 dK),.val (.sl cX)]),(.slot 5,20001,.box 44 [.val mA]),(.slot 7,20002,.box 33 [.val bp])],[(9,31000,(.row 33 bp)),(47,31001,(.row 35 OT))],[]⟩
def Fq:Shape:=⟨[(5,.int .i64),(32,.int .i64),(33,.int .i64)],[(.slot 0,1000,.box 155 [.own (.row 52 dh),.own (.row 118 dK),.val (.sl cX)]),(.slot 7,20001,.box 33 [.val bp]),(.slot 8,20002,.box 33 [.val bp])],[(31,31000,(.row 33 bp))],[]⟩
def w8:Shape:=⟨[(5,.int .i64),(47,.int .i64),(48,.int .i64)],[(.slot 0,1000,.box 155 [.own (.row 52 dh),.own (.row 118 dK),.val (.sl cX)])],[(46,31000,(.row 33 bp))],[]⟩
def nG:Shape:=⟨[(113,.int .i64)],[(.slot 0,1000,.box 155 [.own (.row 52 dh),.own (.row 118 dK),.val (.sl cX)]),(.slot 8,20001,.box 33 [.val bp]),(.slot 9,20002,.box 33 [.val bp]),(.slot 10,20003,.box 33 [.val bp])],[],[]⟩
def BQ:Shape:=⟨[(5,.int .i64)],[(.slot 2,20000,.box 44 [.val mA]),(.slot 3,20001,.box 33 [.val bp]),(.slot 4,20002,.box 33 [.val bp])],[],[]⟩
def w9:Shape:=⟨[(2,.sl bp),(8,.int .i64)],[(.slot 4,20000,.box 31 [.val gT]),(.slot 6,20001,.box 41 [.own (.row 52 dh),.own (.row 118 dK)]),(.slot 7,20002,.box 41 [.own (.row 52 dh),.own (.row 118 dK)])],[],[]⟩
def sd:Shape:=⟨[(0,.sl bp),(7,.int .i64),(9,.int .i64)],[(.slot 5,20000,.box 33 [.val bp])],[(8,31000,(.row 33 bp))],[]⟩
def vm:Shape:=⟨[(0,.sl cX),(6,.int .i64)],[(.slot 3,20000,.box 33 [.val bp]),(.slot 4,20001,.box 33 [.val bp])],[],[]⟩
def sf:Shape:=⟨[(0,.sl bp),(6,.int .i64)],[(.slot 3,20000,.box 33 [.val bp])],[(5,31000,(.row 33 bp))],[]⟩
def si:Shape:=⟨[(5,.int .i64),(6,.int .i64)],[(.slot 2,20000,.box 41 [.val di]),(.slot 3,20001,.box 33 [.val bp])],[],[]⟩
def pN:Shape:=⟨[(5,.int .i64),(6,.int .i64),(7,.int .i64)],[(.slot 2,20000,.box 41 [.val di]),(.slot 3,20001,.box 33 [.val bp])],[],[]⟩
def zN:Shape:=⟨[(7,.int .i64)],[(.slot 0,1000,.box 155 [.own (.row 52 dh),.own (.row 118 dK),.val (.sl cX)]),(.slot 3,20001,.box 33 [.val bp]),(.slot 4,20002,.box 33 [.val bp]),(.slot 5,20003,.box 33 [.val bp])],[],[]⟩
def vn:Shape:=⟨[(12,.int .i64),(13,.int .i64)],[(.slot 0,1000,.box 155 [.own (.row 52 dh),.own (.row 118 dK),.val (.sl cX)]),(.slot 3,20001,.box 33 [.val bp])],[],[]⟩
def vo:Shape:=⟨[(12,.int .i64),(13,.int .i64)],[(.slot 2,20000,.box 44 [.val mA]),(.slot 3,20001,.box 33 [.val bp]),(.slot 4,20002,.box 33 [.val bp])],[],[]⟩
def vp:Shape:=⟨[(0,.sl bp),(7,.int .i64),(8,.int .i64)],[(.slot 3,20000,.box 33 [.val bp])],[],[]⟩
def vq:Shape:=⟨[(0,.sl (.sl bp)),(3,.int .i64),(9,.sl (.sl bp)),(10,.int .i64),(11,.int .i64)],[],[],[]⟩
def vt:Shape:=⟨[(25,.sl (.sl bp)),(26,.int .i64),(27,.int .i64)],[],[(6,31000,(.row 33 bp))],[]⟩
def zO:Shape:=⟨[(3,.int .i64),(6,.sl (.int .i64)),(7,.int .i64),(8,.int .i64)],[],[],[]⟩
def vu:Shape:=⟨[(9,.sl dh),(10,.int .i64),(11,.int .i64)],[(.slot 3,20000,.box 33 [.val bp]),(.slot 4,20001,.box 31 [.val gT])],[],[]⟩
def vv:Shape:=⟨[(8,.sl dK),(9,.int .i64),(10,.int .i64)],[],[(3,31000,(.row 33 bp))],[]⟩
def sj:Shape:=⟨[(18,.sl dh),(19,.int .i64),(20,.int .i64)],[],[(3,31000,(.row 3 (.int .i64))),(4,31001,(.map bp (.int .i64)))],[]⟩
def vw:Shape:=⟨[(5,.int .i64),(18,.sl dh),(19,.int .i64),(20,.int .i64),(30,.sl bp),(31,.int .i64),(32,.int .i64)],[],[(3,31000,(.row 3 (.int .i64))),(4,31001,(.map bp (.int .i64)))],[]⟩
def pO:Shape:=⟨[(4,.mp bp (.int .i64))],[],[(3,31000,(.row 3 (.int .i64))),(42,31001,(.iter bp (.int .i64)))],[]⟩
def vx:Shape:=⟨[(61,.int .i64),(62,.int .i64)],[],[(3,31000,(.row 3 (.int .i64))),(13,31001,(.row 3 (.int .i64)))],[]⟩
def vz:Shape:=⟨[(11,.sl dh),(12,.int .i64),(13,.int .i64)],[(.slot 3,20000,.box 33 [.val bp]),(.slot 4,20001,.box 33 [.val bp])],[],[]⟩
def so:Shape:=⟨[(1,.int .i64)],[],[(0,1000,(.row 3 (.int .i64)))],[]⟩
def iC:Shape:=⟨[(0,.sl dh),(8,.int .i64),(9,.int .i64),(10,.int .i64)],[(.slot 4,20000,.box 31 [.val gT])],[],[(2,207,[])]⟩
def iD:Shape:=⟨[(0,.sl dK),(8,.int .i64),(9,.int .i64),(10,.int .i64)],[(.slot 4,20000,.box 31 [.val gT])],[],[(2,214,[])]⟩
def jT:Shape:=⟨[(0,.sl bp),(6,.int .i64)],[(.slot 4,20000,.box 33 [.val bp]),(.slot 5,20001,.box 33 [.val bp])],[],[(1,195,[])]⟩
def mb:Shape:=⟨[(11,.sl dh),(12,.int .i64),(13,.int .i64)],[(.slot 5,20000,.box 31 [.val gT]),(.slot 6,20001,.box 52 [.val (.int .i64),.val (.int .i64),.own (.row 33 bp),.val .str,.val (.int .i64)])],[],[(1,109,[])]⟩
def iE:Shape:=⟨[(0,.sl cX),(8,.int .i64),(9,.int .i64),(10,.int .i64)],[(.slot 4,20000,.box 33 [.val bp])],[],[(2,232,[])]⟩
def jU:Shape:=⟨[(0,.sl cX),(7,.int .i64),(8,.int .i64)],[(.cap 1 0,1000,.box 33 [.val bp])],[],[(1,245,[1000])]⟩
def jV:Shape:=⟨[(5,.int .i64),(8,.sl dh),(9,.int .i64),(10,.int .i64)],[],[],[(1,239,[])]⟩
def pP:Shape:=⟨[(4,.int .i64),(7,.bool),(8,.bool),(9,.int .i64)],[(.slot 1,20000,.box 41 [.val di])],[],[]⟩
def pQ:Shape:=⟨[(7,.bool),(8,.bool),(10,.int .i64)],[(.slot 1,20000,.box 41 [.val di])],[],[]⟩
def vA:Shape:=⟨[(5,.bool),(8,.int .i64),(12,.int .i64)],[(.slot 2,20000,.box 44 [.val mA]),(.slot 3,20001,.box 27 [.val Da])],[(7,31000,(.row 37 iZ)),(11,31001,(.row 37 iZ))],[]⟩
def vB:Shape:=⟨[(3,.int .i64)],[(.slot 1,20000,.box 44 [.val mA])],[],[]⟩
def vC:Shape:=⟨[(23,.sl iZ),(24,.int .i64),(25,.int .i64)],[(.slot 2,20000,.box 44 [.val mA])],[(8,31000,(.row 37 iZ))],[]⟩
def vD:Shape:=⟨[(0,.sl iZ),(1,.sl iZ),(5,.int .i64)],[],[],[]⟩
def jy:Shape:=⟨[(32,.sl bp),(33,.int .i64),(34,.int .i64)],[(.slot 3,20000,.box 37 [.val iZ]),(.slot 5,20001,.box 52 [.val dh]),(.slot 7,20002,.box 118 [.val dK]),(.slot 9,20003,.box 37 [.val iZ])],[],[]⟩
def sq:Shape:=⟨[(0,.sl (.sl iZ)),(3,.int .i64),(9,.sl (.sl iZ)),(10,.int .i64),(11,.int .i64)],[],[],[]⟩
def pR:Shape:=⟨[(25,.sl (.sl iZ)),(26,.int .i64),(27,.int .i64)],[],[(6,31000,(.row 37 iZ))],[]⟩
def mf:Shape:=⟨[(11,.sl dK),(12,.int .i64),(13,.int .i64)],[(.slot 5,20000,.box 31 [.val gT]),(.slot 6,20001,.box 118 [.val dK])],[],[(1,138,[])]⟩
def ans:List (Nat×List (Nat×Shape)):=[(106,[(12,pP),(17,pQ)]),(79,[(2,Bx)]),(124,[(2,By)]),(92,[(2,Bz)]),(192,[(6,BA)]),(144,[(2,BB)]),(91,[(2,BC)]),(164,[(5,wT)]),(165,[(4,wU)]),(49,[(5,BD)]),(21,[(3,BE)]),(69,[(4,BF)]),(103,[(3,BG)]),(80,[(4,tY)]),(81,[(3,wV),(8,wW)]),(85,[(18,l9)]),(86,[(4,rj),(12,rk)]),(217,[(2,BH)]),(193,[(3,BI),(7,wX),(10,rl)]),(98,[(4,BJ)]),(66,[(4,BL)]),(191,[(3,BM)]),(96,[(3,BN)]),(115,[(4,tZ)]),(117,[(7,kQ)]),(122,[(3,wY),(9,BO)]),(133,[(3,BP),(7,wZ)]),(134,[(2,w4)]),(135,[(2,ua),(9,w5),(15,w6),(18,ub)]),(136,[(3,uc)]),(161,[(2,w7)]),(154,[(8,ma)]),(155,[(6,Fq),(11,w8)]),(157,[(19,nG)]),(143,[(2,BQ)]),(145,[(3,w9)]),(146,[(6,sd)]),(147,[(2,vm)]),(126,[(3,sf)]),(163,[(3,si),(6,pN)]),(184,[(3,zN)]),(185,[(2,vn)]),(212,[(2,vo)]),(168,[(2,vp)]),(196,[(3,vq),(11,vt)]),(218,[(3,zO)]),(139,[(2,vu)]),(249,[(3,vv)]),(256,[(4,sj),(8,vw),(14,pO),(21,vx)]),(258,[(2,vz)]),(260,[(1,so)]),(208206,[(3,iC)]),(215213,[(3,iD)]),(196194,[(5,jT)]),(110108,[(2,mb)]),(233231,[(3,iE)]),(246244,[(2,jU)]),(240238,[(3,jV)]),(9,[(12,vA)]),(43,[(2,vB)]),(48,[(6,vC)]),(50,[(4,vD)]),(77,[(5,jy)]),(113,[(3,sq),(11,pR)]),(139137,[(2,mf)])]
def An(f:FuncId)(key:Nat):Option Shape:=(ans.find? (fun p=>p.1==f)).bind fun p=>(p.2.find? (fun q=>q.1==key)).map (fun q=>q.2)
abbrev JT(g:aN):=(sh:Shape)→List Item→sh.T→Option g.B
noncomputable def bU(f:FuncId)(g:aN)(fn:Func)(F:FT)(J:JT g)(x:g.A):Option g.B:=aB Tryz.prog Eqs Sg F fn.ntmps (An f) J (qN Tryz.prog g fn) fuel [.code (fn.body.getD .skip)] (entry g x)
noncomputable def eR(f j:Nat)(g:aN)(fn:Func)(sh:Shape)(F:FT)(J:JT g)(x:sh.T):Option g.B:=aB Tryz.prog Eqs Sg F fn.ntmps (An f) J (qN Tryz.prog g fn) fuel (round (aM Tryz.prog (f%1000) j)) (aq sh x)
end Go.Vs
namespace Go.Vs
open Go.Proofs
variable {G:(f:FuncId)→(g:aN)→Option (g.A→Option g.B)}
noncomputable abbrev FX(G:(f:FuncId)→(g:aN)→Option (g.A→Option g.B)):FT:=Fix Tryz.prog Eqs Sg An G
noncomputable abbrev LX(G:(f:FuncId)→(g:aN)→Option (g.A→Option g.B))(f:FuncId)(g:aN)(fn:Func):JT g:=Lp Tryz.prog Eqs Sg An G f g fn
abbrev HG(G:(f:FuncId)→(g:aN)→Option (g.A→Option g.B)):Prop:=∀f g,(f==240 || f==241)=false→G f g=none
theorem aw{f:FuncId}{g:aN}{fn:Func}{x:g.A}{y:g.B}(hG:G f g=none)(hb:body Tryz.prog (f%1000)=some (fn,fn.body.getD .skip))(hc:(decide (g.ps.length≤fn.ntmps)&&decide (g.bs.length≤8))=true)
  (h:bU f g fn (FX G) (LX G f g fn) x=some y):FX G f g x=some y:=Lv hG hb hc h
theorem ao{f j:Nat}{g:aN}{fn:Func}{sh:Shape}{x:sh.T}{y:g.B}(hs:(match aM Tryz.prog (f%1000) j with | .inLoop _::_=>true|_=>false)=true)
  (h:eR f j g fn sh (FX G) (LX G f g fn) x=some y):LX G f g fn sh (aM Tryz.prog (f%1000) j) x=some y:=by
 unfold eR at h
 generalize aM Tryz.prog (f%1000) j=s at hs h ⊢
 split at hs
 ·exact Qg h
 ·cases hs
abbrev aaa:=(Int×Unit)
abbrev aad:=(((List ah)×((List ai)×Unit))×(((List ah)×((List ai)×Unit))×Unit))
abbrev aae:=(ae×Unit)
abbrev aaf:=(Int×aaa)
abbrev abq:=((aj×Unit)×Unit)
abbrev abr:=(ID×Unit)
abbrev abv:=((List ae)×Unit)
abbrev abw:=(aae×Unit)
abbrev abx:=((List Int)×Unit)
abbrev ab9:=(Unit×Unit)
abbrev acb:=((List aZ)×Unit)
abbrev acd:=(aj×Unit)
abbrev acg:=(StateT×Unit)
abbrev ach:=(aV×Unit)
abbrev aco:=((List ae)×aaa)
abbrev acp:=((List ae)×aaf)
abbrev acx:=(aZ×Unit)
abbrev acC:=(abr×Unit)
abbrev acE:=(abr×((Int×(Int×((List ae)×(ByteArray×aaa))))×Unit))
abbrev acF:=((List ah)×aaf)
abbrev acH:=(abq×Unit)
end Go.Vs
