/- The value semantics is sound for whole functions; the signatures of the program. -/
import Derived.Test.YtpkfpbpbkabkdaaGreatEngineC
import Derived.Scope
import Derived.Test.YtpkfpbpbkabkdaaGreatProg
import Derived.KernelRfl
set_option linter.unusedSimpArgs false
set_option linter.unusedVariables false
namespace Go.Vs
variable {P:Program} {Eqs:TypeId→Option K} {Sg:FuncId→Option aJ} {F:(f:FuncId)→(g:aJ)→g.A→Option g.B} {R:Type}
variable {Z Z' Z0:Nat→Prop} {ψ ψ' ψ0:Nat→Value} {h h':Hp} {w w' w0:World} {B0:Nat} {O N:Nat→Prop}
def eZ(st:St):(l:List (Nat×Nat×OK))→II (l.map (·.2.2))→List w8
 |[],_=>[]
 |(s,id,ok)::r,x=>(id,(og (look st.tmps s)).head?,.own ok x.1)::eZ st r x.2
theorem ux(st:St):∀(l:List (Nat×Nat×OK)) (x:II (l.map (·.2.2))),dy (eZ st l x)=qb l x
 |[],_=>rfl
 |(s,id,ok)::r,x=>by simp only[eZ,qb];rw[←ux st r x.2];rfl
theorem sw(st:St):∀(l:List (Nat×Nat×OK)) (x:II (l.map (·.2.2))),(eZ st l x).map (·.1)=l.map (·.2.1)
 |[],_=>rfl
 |(s,id,ok)::r,x=>by simp only[eZ,List.map_cons];rw[sw st r x.2]
theorem xn(st:St):∀(l:List (Nat×Nat×OK)) (x:II (l.map (·.2.2))),(eZ st l x).filterMap (·.2.1)=l.flatMap fun p=>og (look st.tmps p.1)
 |[],_=>rfl
 |(s,id,ok)::r,x=>by
  simp only[eZ,List.flatMap_cons]
  rw[dJ,xn st r x.2]
  simp only[]
  rw[vN]
theorem qn{st:St}{s id:Nat}{ok:OK}{r:List (Nat×Nat×OK)}{x:II (((s,id,ok)::r).map (·.2.2))}(hd:mM st ((s,id,ok)::r)=some x):dN st.heap ok (look st.tmps s)=some x.1∧mM st r=some x.2:=by
 have e:mM st ((s,id,ok)::r)=(match dN st.heap ok (look st.tmps s),mM st r with
  |some x,some y=>some ((x,y):ok.T×II (r.map (·.2.2)))
  |_,_=>none):=rfl
 rw[e]at hd
 clear e
 generalize dN st.heap ok (look st.tmps s)=o1 at hd ⊢
 generalize mM st r=o2 at hd ⊢
 cases o1 with
 |none=>cases hd
 |some x1 =>
  cases o2 with
  |none=>cases hd
  |some y1=>have:=Option.some.inj hd;subst this;exact⟨rfl,rfl⟩
theorem Ag{hd:Hp}{st:St}:∀(l:List (Nat×Nat×OK)) (x:II (l.map (·.2.2))),mM st l=some x→(∀s∈(l.flatMap fun p=>og (look st.tmps p.1)),hd s=st.heap.get s) →
  ∀e∈eZ st l x,ug Z ψ hd w h' ψ' e
 |[],_,_,_,e,he=>by simp[eZ]at he
 |(s,id,ok)::r,x,hx,hk,e,he=>by
  obtain⟨h1,h2⟩:=qn hx
  simp only[List.flatMap_cons]at hk
  simp only[eZ]at he
  rcases List.mem_cons.1 he with rfl|he
  ·exact Kw h1 fun s hs=>hk s (List.mem_append_left _ hs)
  ·exact Ag r x.2 h2 (fun s hs=>hk s (List.mem_append_right _ hs)) e he
theorem Gh{st:St}{s:Nat}{k:K}{r:List (Nat×K)}{x:Fy (((s,k)::r).map (·.2))}(hd:p7 st ((s,k)::r)=some x):fF k st.heap (look st.tmps s)=some x.1∧p7 st r=some x.2:=by
 have e:p7 st ((s,k)::r)=(match fF k st.heap (look st.tmps s),p7 st r with
  |some x,some y=>some ((x,y):k.T×Fy (r.map (·.2)))
  |_,_=>none):=rfl
 rw[e]at hd
 clear e
 generalize fF k st.heap (look st.tmps s)=o1 at hd ⊢
 generalize p7 st r=o2 at hd ⊢
 cases o1 with
 |none=>cases hd
 |some x1 =>
  cases o2 with
  |none=>cases hd
  |some y1=>have:=Option.some.inj hd;subst this;exact⟨rfl,rfl⟩
theorem eF{T:List (Nat×AV)}{n:Nat}{a:Act}(fg:∀p∈T,av Z ψ h w p.2 (a.tmps.getD p.1 undef))(hs:a.tmps.size=n)(hd:a.defers=[]):cG Z ψ h w n (look T) a:=by
 refine⟨fun d=>?_,hs,hd⟩
 induction T with
 |nil=>simp only[look,av]
 |cons p r ih =>
  obtain⟨i,v⟩:=p
  simp only[look]
  split
  ·rename_i e;subst e;exact fg _ List.mem_cons_self
  ·exact ih fun p hp=>fg p (List.mem_cons_of_mem _ hp)
section
variable {st:St} {n:Nat} {a:Act}
theorem uy(g:Good Z ψ st.heap.get w B0 O)(t:cG Z ψ st.heap.get w n (look st.tmps) a)(hz:∀b,Z b→Z' b):∀(l:List (Nat×K)) (x:Fy (l.map (·.2))),p7 st l=some x →
  (∀id b,AV.bF id∈(l.flatMap fun p=>(look st.tmps p.1).cells)→st.heap.get id≠none→ob (ψ id)=some b→Z' b)→∀p∈qa l x,av Z' ψ' h' w p.2 (a.tmps.getD p.1 undef)
 |[],_,_,_,p,hp=>by simp[qa]at hp
 |(s,k)::r,x,hx,hf,p,hp=>by
  obtain⟨h1,h2⟩:=Gh hx
  simp only[List.flatMap_cons]at hf
  simp only[qa]at hp
  rcases List.mem_cons.1 hp with rfl|hp
  ·exact q6 g hz (fun id b bL=>hf id b (List.mem_append_left _ bL)) h1 (t.rep s)
  ·exact uy g t hz r x.2 h2 (fun id b bL=>hf id b (List.mem_append_right _ bL)) p hp
theorem sx(t:cG Z ψ st.heap.get w n (look st.tmps) a):∀(l:List (Src×Nat×BK)) (ids:List Nat),D3 st l=some ids→(∀i∈ids,st.heap.get i≠none) →
  (∀p∈ids.zip (l.map (·.2.1)),h' p.2≠none→ψ' p.2=ψ p.1)→∀p∈jw l,av Z' ψ' h' w p.2 (a.tmps.getD p.1 undef)
 |[],_,_,_,_,p,hp=>by simp[jw]at hp
 |(src,me,b)::r,ids,hx,hi,iJ,p,hp=>by
  simp only[D3]at hx
  split at hx
  ·rename_i i is h1 h2
   cases hx
   simp only[List.map_cons,List.zip_cons_cons]at iJ
   have ih:=sx t r is h2 (fun j hj=>hi j (List.mem_cons_of_mem _ hj)) (fun p hp=>iJ p (List.mem_cons_of_mem _ hp)) p
   cases src with
   |slot s =>
    simp only[jw]at hp
    rcases List.mem_cons.1 hp with rfl|hp
    ·simp only[Uj]at h1
     obtain⟨sz,h3⟩:=oz h1
     have h4:=t.rep s
     rw[h3]at h4
     exact ym h4 (hi i List.mem_cons_self) (iJ (i,me) List.mem_cons_self)
    ·exact ih hp
   |cap s j=>exact ih (by simpa only[jw] using hp)
  ·cases hx
theorem Gi{hh:Heap}{ids:List (Nat×Nat)}(hi:∀p∈ids,hh.get p.1≠none)(iJ:∀p∈ids,h' p.2≠none→ψ' p.2=ψ p.1):∀(cap:List AV) (is Cc:List Nat) (vs:List Value),ju cap=some is →
  is.map (fun i=>(ids.find? (·.1==i)).map (·.2))=Cc.map some→ak Z ψ hh.get w cap vs→ak Z' ψ' h' w (Cc.map fun i=>.ref i 0 0 0) vs
 |[],is,Cc,vs,h1,h2,hr=>by
  simp only[ju]at h1
  cases h1
  cases Cc with
  |nil=>simpa only[List.map_nil,ak] using hr
  |cons c r=>simp at h2
 |v::cap,is,Cc,vs,h1,h2,hr=>by
  simp only[ju]at h1
  split at h1
  ·rename_i i is' h3 h4
   cases h1
   cases Cc with
   |nil=>simp at h2
   |cons c r =>
    simp only[List.map_cons,List.cons.injEq]at h2
    obtain⟨h5,h6⟩:=h2
    simp only[List.map_cons,ak]at hr ⊢
    obtain⟨u,us,rfl,h7,h8⟩:=hr
    obtain⟨sz,rfl⟩:=oz h3
    cases hf:ids.find? (·.1==i) with
    |none=>rw[hf]at h5;cases h5
    |some p =>
     rw[hf]at h5
     have hm:=List.mem_of_find?_eq_some hf
     have he:=List.find?_some hf
     simp only[Option.map_some,Option.some.injEq]at h5
     have VC:p.1=i:=by simpa using he
     refine⟨u,us,rfl,ym h7 (by rw[←VC];exact hi p hm) (fun hn=>?_),Gi hi iJ cap is' r us h4 h6 h8⟩
     rw[←h5,←VC];exact iJ p hm (by rw[h5];exact hn)
  ·cases h1
theorem xp(t:cG Z ψ st.heap.get w n (look st.tmps) a){ids:List (Nat×Nat)}(hi:∀p∈ids,st.heap.get p.1≠none)(iJ:∀p∈ids,h' p.2≠none→ψ' p.2=ψ p.1):∀(l:List (Nat×FuncId×List Nat)),Ks st ids l=true →
  ∀p∈yh l,av Z' ψ' h' w p.2 (a.tmps.getD p.1 undef)
 |[],_,p,hp=>by simp[yh]at hp
 |(s,f,Cc)::r,hx,p,hp=>by
  simp only[Ks,Bool.and_eq_true]at hx
  simp only[yh,List.map_cons]at hp
  rcases List.mem_cons.1 hp with rfl|hp
  ·have h1:=hx.1
   split at h1
   ·rename_i f' cap hl
    simp only[Bool.and_eq_true,decide_eq_true_eq]at h1
    obtain⟨rfl,h2⟩:=h1
    split at h2
    ·rename_i is hri
     have h4:=t.rep s
     rw[hl]at h4
     simp only[av]at h4 ⊢
     obtain⟨vs,h5,h6⟩:=h4
     exact⟨vs,h5,Gi hi iJ cap is Cc _ hri (of_decide_eq_true h2) h6⟩
    ·cases h2
   ·cases h1
  ·exact xp t hi iJ r hx.2 p hp
theorem uz(t:cG Z ψ st.heap.get w n (look st.tmps) a):∀(l:List (Nat×Nat×OK)) (x:II (l.map (·.2.2))),mM st l=some x→(∀e∈eZ st l x,h' e.1≠none→ψ' e.1=jC ψ e.2.1) →
  ∀p∈(l.map fun p=>(p.1,AV.bF p.2.1)),av Z' ψ' h' w p.2 (a.tmps.getD p.1 undef)
 |[],_,_,_,p,hp=>by simp at hp
 |(s,id,ok)::r,x,hx,iJ,p,hp=>by
  obtain⟨h1,h2⟩:=qn hx
  simp only[eZ]at iJ
  simp only[List.map_cons]at hp
  rcases List.mem_cons.1 hp with rfl|hp
  ·exact Ed h1 (t.rep s) (iJ _ List.mem_cons_self)
  ·exact uz t r x.2 h2 (fun e he=>iJ e (List.mem_cons_of_mem _ he)) p hp
end
theorem uA{st:St}{m:Nat}:∀(l:List (Nat×Nat×OK)) (x:II (l.map (·.2.2))),nm st m l=true→∃o,(m,some m,o)∈eZ st l x
 |[],_,h=>by cases h
 |(s,id,ok)::r,x,h=>by
  simp only[nm,Bool.or_eq_true,Bool.and_eq_true,beq_iff_eq]at h
  rcases h with⟨rfl,h⟩|h
  ·split at h
   ·rename_i i hl
    have hi:i=id:=by simpa using h
    subst hi
    exact⟨_,by simp only[eZ,hl,og,List.head?_cons];exact List.mem_cons_self⟩
   ·cases h
  ·obtain⟨o,ho⟩:=uA r x.2 h
   exact⟨o,List.mem_cons_of_mem _ ho⟩
theorem sy{st:St}{m:Nat}:∀(l:List (Nat×Nat×OK)) (x:II (l.map (·.2.2))),mM st l=some x→nm st m l=true→st.heap.get m≠none
 |[],_,_,h=>by cases h
 |(s,id,ok)::r,x,hx,h=>by
  obtain⟨h1,h2⟩:=qn hx
  simp only[nm,Bool.or_eq_true,Bool.and_eq_true,beq_iff_eq]at h
  rcases h with⟨rfl,h⟩|h
  ·split at h
   ·rename_i i hl
    have hi:i=id:=by simpa using h
    subst hi
    rw[hl]at h1
    simp only[dN]at h1
    split at h1
    ·rename_i hg;rw[hg];simp
    ·cases h1
   ·cases h
  ·exact sy r x.2 h2 h
theorem KB{kx:List AV}{hh:Heap}{b:Nat}(hb:pQ Z ψ hh.get kx b):Z b∨Own ψ hh.get b:=hb.imp (fun h=>h) fun⟨i,_,h2,h3⟩=>⟨i,h2,h3⟩
theorem fR{sh:Shape}{st:St}{x:sh.T}{n:Nat}{a:Act}(hx:cy sh st=some x)(k:Ok Z0 w0 O ψ0 Z ψ st.heap.get w)(t:cG Z ψ st.heap.get w n (look st.tmps) a) :
  ∃Z' ψ',Ok Z0 w0 O ψ0 Z' ψ' (an sh x).heap.get w∧cG Z' ψ' (an sh x).heap.get w n (look (an sh x).tmps) a:=by
 unfold cy at hx
 split at hx
 ·cases hx
 rename_i ids rP
 split at hx
 ·rename_i xv xb xr hv hb hr Ck
  cases hx
  simp only[Bool.and_eq_true]at Ck
  obtain⟨Gj,zT,adP,adQ⟩:=Ck
  obtain⟨hlen,zX⟩:=iS _ _ _ hb
  have Uz:(sh.boxes.map (·.2.1)).length=sh.bs.length:=by simp[Shape.bs]
  let L:List w8:=cr sh.bs st.heap ids (sh.boxes.map (·.2.1)) 9000 xb++eZ st sh.rows xr
  have eH:dy L=(an sh (xv,xb,xr)).heap:=by
   show dy (_++_)=_
   rw[mo,iR _ _ _ _ _ _ hb Uz,ux];rfl
  have eN:L.map (·.1)=qT sh:=by
   show(_++_:List w8).map _=_
   rw[List.map_append,gK _ _ _ _ _ _ hb Uz,sw];rfl
  have eS:L.filterMap (·.2.1)=FA st sh ids:=by
   show(_++_:List w8).filterMap _=_
   rw[List.filterMap_append,j0 _ _ _ _ _ _ hb Uz,xn];rfl
  have hn:b4 (L.map (·.1))=true:=by rw[eN];exact zT
  have iJ:=yl (ψ:=ψ) hn
  have hz:∀b,Z b→pQ Z ψ st.heap.get (yg st sh ids) b:=fun b hb=>.inl hb
  have Iz:=(ri Gj).2 st.heap
  have g':Good (pQ Z ψ st.heap.get (yg st sh ids)) (eE ψ L) (dy L).get w w0.heap.size O:=by
   refine vO k.dL Gj hn eS fun e he=>?_
   rcases List.mem_append.1 he with he|he
   ·exact lB k.dL hz sh.bs ids _ 9000 xb hb (fun id b bL h1 h2=>.inr ⟨id,List.mem_append_right _ bL,h1,h2⟩) (fun s hs=>Iz s (List.mem_append_left _ hs)) (fun e he=>iJ e (List.mem_append_left _ he)) e he
   ·exact Ag sh.rows xr hr (fun s hs=>Iz s (List.mem_append_right _ hs)) e he
  have Oi:∀p∈ids.zip (sh.boxes.map (·.2.1)),(dy L).get p.2≠none→eE ψ L p.2=ψ p.1:=fun p hp bq=>by
   obtain⟨o,ho⟩:=j4 sh.bs ids (sh.boxes.map (·.2.1)) 9000 xb (hh:=st.heap) hlen p hp
   exact iJ (p.2,some p.1,o) (List.mem_append_left _ ho) bq
  have vH:∀p∈ids.zip (sh.boxes.map (·.2.1)),st.heap.get p.1≠none:=fun p hp=>zX _ (List.of_mem_zip hp).1
  refine⟨pQ Z ψ st.heap.get (yg st sh ids),eE ψ L,?_,?_⟩
  ·rw[←eH]
   refine⟨g',fun b hb=>.inl (k.fD b hb),fun b hb=>?_,k.os,k.tape,k.output,k.size,k.block,fun i hi bq=>?_⟩
   ·rcases KB hb with h1|⟨id,h1,h2⟩
    ·exact k.dY b h1
    ·exact .inr (k.dL.live id b h1 h2).2.symm
   ·obtain⟨o,ho⟩:=Option.ne_none_iff_exists'.1 bq
    obtain⟨s,hm⟩:=nr ho
    have iX:i∈qT sh:=by rw[←eN];exact List.mem_map.2 ⟨_,hm,rfl⟩
    have h1:=List.all_eq_true.1 adP i iX
    simp only[Bool.or_eq_true,decide_eq_true_eq]at h1
    rcases h1 with(h1|h1)|h1
    ·omega
    ·obtain⟨p,hp,he⟩:=List.any_eq_true.1 h1
     simp only[Bool.and_eq_true,beq_iff_eq]at he
     have h2:=Oi p hp (by rw[he.2];exact bq)
     rw[he.1,he.2]at h2
     rw[h2]
     exact k.fix i hi (by have:=vH p hp;rwa [he.1]at this)
    ·obtain⟨o',mQ⟩:=uA sh.rows xr h1
     have h2:eE ψ L i=ψ i:=iJ (i,some i,o') (List.mem_append_right _ mQ) bq
     rw[h2]
     exact k.fix i hi (sy sh.rows xr hr h1)
  ·rw[←eH]
   refine eF (fun p hp=>?_) t.size t.defers
   simp only[an]at hp
   rcases List.mem_append.1 hp with hp|hp
   ·exact uy k.dL t hz sh.xR xv hv (fun id b bL h1 h2=>.inr ⟨id,List.mem_append_left _ bL,h1,h2⟩) p hp
   ·rcases List.mem_append.1 hp with hp|hp
    ·exact sx t sh.boxes ids rP zX Oi p hp
    ·rcases List.mem_append.1 hp with hp|hp
     ·exact xp t vH Oi sh.fns adQ p hp
     ·exact uz t sh.rows xr hr (fun e he=>iJ e (List.mem_append_right _ he)) p hp
 ·cases hx
end Go.Vs
namespace Go.Vs
variable {P:Program} {Eqs:TypeId→Option K} {Sg:FuncId→Option aJ} {F:(f:FuncId)→(g:aJ)→g.A→Option g.B} {R:Type}
variable {Z Z' Z0:Nat→Prop} {ψ ψ' ψ0:Nat→Value} {h h':Hp} {w w' w0:World} {B0:Nat} {O N:Nat→Prop}
def Reach(P:Program)(b:Frame)(cs:List Frame)(tj:Act→World→Prop)(m:Machine):Prop:=∃a' w' todo,tj a' w'∧Steps P m (lone { b.at a' todo with mode:=.returning } cs w')
theorem Reach.head{b:Frame}{cs:List Frame}{tj:Act→World→Prop}{m m':Machine}(h:step P m=.next m')(r:Reach P b cs tj m'):Reach P b cs tj m:=by
 obtain⟨a,w,todo,h1,h2⟩:=r
 exact⟨a,w,todo,h1,.head h h2⟩
theorem Reach.steps{b:Frame}{cs:List Frame}{tj:Act→World→Prop}{m m':Machine}(h:Steps P m m')(r:Reach P b cs tj m'):Reach P b cs tj m:=by
 obtain⟨a,w,todo,h1,h2⟩:=r
 exact⟨a,w,todo,h1,h.trans h2⟩
mutual
theorem Gk{p:Nat→Prop}(hp:∀i,p i):∀v:AV,aE p v
 |.ref id _ _ _=>by simp only[aE];exact hp id
 |.bF id=>by simp only[aE];exact hp id
 |.fn _ cap=>by simp only[aE];exact rm hp cap
 |.agg cs=>by simp only[aE];exact rm hp cs
 |.mI vs=>by simp only[aE];exact rm hp vs
 |.no=>by simp only[aE]
 |.bool _=>by simp only[aE]
 |.int _ _=>by simp only[aE]
 |.str _=>by simp only[aE]
 |.kN=>by simp only[aE]
 |.fJ=>by simp only[aE]
 |.fp _ _ _=>by simp only[aE]
 |.sl _ _ _=>by simp only[aE]
 |.mp _ _ _=>by simp only[aE]
theorem rm{p:Nat→Prop}(hp:∀i,p i):∀l:List AV,ax p l
 |[]=>by simp only[ax]
 |v::r=>by simp only[ax];exact⟨Gk hp v,rm hp r⟩
end
theorem SV(s:Nat){n:Nat}{a:Act}{st:St}(k:Ok Z0 w0 O ψ0 Z ψ st.heap.get w)(t:cG Z ψ st.heap.get w n (look st.tmps) a):∃Z',Ok Z0 w0 O ψ0 Z' ψ (NM s st).heap.get w∧cG Z' ψ (NM s st).heap.get w n (look (NM s st).tmps) a:=by
 unfold NM
 split
 ·rename_i m hl
  split
  ·rename_i ty kk xs hg
   have g:=k.dL
   obtain⟨vs,C9,ud⟩:=g.row m (.row ty kk) xs hg
   have hs:∀i o,(st.heap.del m).get i=some o→st.heap.get i=some o:=fun i o hi=>by rw[ua]at hi;by_cases e:i=m<;>simp_all [dM]
   have gg:=g.freeze (Z':=fun b=>Z b∨ob (ψ m)=some b) (h':=(st.heap.del m).get) hs (fun b hb=>.inl hb) (fun b hb=>hb.imp (fun h=>h) (fun hb=>⟨m,by rw[hg];simp,by rw[ua,bh],hb⟩))
   have n1:Next Z ψ st.heap.get w w0.heap.size O (fun _=>False) (fun b=>Z b∨ob (ψ m)=some b) ψ (st.heap.del m).get w:=⟨fun b hb=>.inl hb,fun b hb=>hb.imp (fun h=>h) (fun hb=>.inl ⟨m,by rw[hg];simp,hb⟩),cW.refl _ _ _,fun i hi=>by
    obtain⟨o,ho⟩:=Option.ne_none_iff_exists'.1 hi
    exact .inl ⟨by rw[hs i o ho];simp,rfl⟩,gg⟩
   refine⟨_,k.next (fun id h=>h.elim) n1,⟨fun d=>?_,t.size,t.defers⟩⟩
   rw[rk _ rfl]
   have hr:=t.rep d
   by_cases hv:look st.tmps d=.bF m
   ·rw[hv]at hr ⊢
    simp only[av]at hr
    have hu:=hr.2 (by rw[hg];simp)
    simp only[xQ,if_true,av]
    exact⟨by rw[hu];exact tV C9 ud (fun b hb=>.inl hb) (fun b hb=>.inr hb),by simp⟩
   ·have hf:xQ m (.sl false kk xs) (look st.tmps d)=look st.tmps d:=by
     unfold xQ
     split
     ·split
      ·rename_i i hi e;subst e;exact absurd hi hv
      ·rename_i i hi e;exact hi.symm
     ·rfl
    rw[hf]
    exact n1.rep g (Gk (fun _ h=>h) _) hr
  ·exact⟨Z,k,t⟩
 ·exact⟨Z,k,t⟩
theorem OQ{n:Nat}{a:Act}(o:Option Shape){st:St}(k:Ok Z0 w0 O ψ0 Z ψ st.heap.get w)(t:cG Z ψ st.heap.get w n (look st.tmps) a):∃Z',Ok Z0 w0 O ψ0 Z' ψ (FB o st).heap.get w∧cG Z' ψ (FB o st).heap.get w n (look (FB o st).tmps) a:=by
 unfold FB
 split
 ·rename_i sh
  generalize sh.rows=l
  induction l generalizing Z st with
  |nil=>exact⟨Z,k,t⟩
  |cons p r ih =>
   obtain⟨Z1,k1,t1⟩:=SV p.1 k t
   exact ih k1 t1
 ·exact⟨Z,k,t⟩
theorem qo(V:Env P Eqs Sg F)(hm:P.follows .mixedOrders=true){n:Nat}{ann:Nat→Option Shape}{J:(sh:Shape)→List Item→sh.T→Option R}{ret:St→Option R}{r:R}{b:Frame}{cs:List Frame}{tj:Act→World→Prop}
  (hJ:∀sh c k x Z ψ a w,J sh (.inLoop c::k) x=some r→Ok Z0 w0 O ψ0 Z ψ (an sh x).heap.get w→cG Z ψ (an sh x).heap.get w n (look (an sh x).tmps) a→Reach P b cs tj (lone (b.at a (.code c::.inLoop c::k)) cs w))
  (rQ:∀st Z ψ a w,ret st=some r→Ok Z0 w0 O ψ0 Z ψ st.heap.get w→cG Z ψ st.heap.get w n (look st.tmps) a→tj a w) :
  ∀(fu:Nat) (items:List Item) (st:St) (Z:Nat→Prop) (ψ:Nat→Value) (a:Act) (w:World),az P Eqs Sg F n ann J ret fu items st=some r→Ok Z0 w0 O ψ0 Z ψ st.heap.get w→cG Z ψ st.heap.get w n (look st.tmps) a →
   Reach P b cs tj (lone (b.at a items) cs w)
 |0,items,st,Z,ψ,a,w,hx,k,t=>by
  cases items<;>simp only[az]at hx<;>cases hx
 |fu+1,[],st,Z,ψ,a,w,hx,k,t=>⟨a,w,[],rQ st Z ψ a w (by simpa only[az] using hx) k t,.one step_end⟩
 |fu+1,it::Mm,st,Z,ψ,a,w,hx,k,t=>by
  have ih:=qo V hm (ann:=ann) hJ rQ fu
  have loop:∀c,(match ann (qU c) with
    |none=>none
    |some sh=>match cy sh st with
     |some x=>J sh (.inLoop c::Mm) x
     |none=>none)=some r→Reach P b cs tj (lone (b.at a (.code c::.inLoop c::Mm)) cs w):=fun c hx=>by
   split at hx
   ·cases hx
   ·rename_i sh hsh
    split at hx
    ·rename_i x hxx
     obtain⟨Z',ψ',k',t'⟩:=fR hxx k t
     exact hJ sh c Mm x Z' ψ' a w hx k' t'
    ·cases hx
  cases it with
  |inBlock id=>exact .head step_inBlock (ih Mm st Z ψ a w (by simpa only[az] using hx) k t)
  |inScope c=>exact .head step_inScope (ih Mm st Z ψ a w (by simpa only[az] using hx) k t)
  |inLoop c=>exact .head step_inLoop (loop c (by simp only[az]at hx;exact hx))
  |code c =>
   cases c with
   |skip=>exact .head step_skip (ih Mm st Z ψ a w (by simpa only[az] using hx) k t)
   |label l=>exact .head step_label (ih Mm st Z ψ a w (by simpa only[az] using hx) k t)
   |seq x y=>exact .head step_seq (ih _ st Z ψ a w (by simpa only[az] using hx) k t)
   |cond c x y =>
    simp only[az]at hx
    split at hx
    ·rename_i tt ht
     have h1:=ql t c
     rw[ht]at h1
     simp only[av]at h1
     cases tt with
     |true=>exact .head (step_cond h1) (ih _ st Z ψ a w hx k t)
     |false=>exact .head (step_cond h1) (ih _ st Z ψ a w hx k t)
    ·cases hx
   |scope c=>exact .head step_scope (ih _ st Z ψ a w (by simpa only[az] using hx) k t)
   |block id c=>exact .head step_block (ih _ st Z ψ a w (by simpa only[az] using hx) k t)
   |loop c =>
    simp only[az]at hx
    cases fu with
    |zero=>simp only[az]at hx;cases hx
    |succ fu=>exact .head step_loop (loop c (by simp only[az]at hx;exact hx))
   |exit id =>
    simp only[az]at hx
    split at hx
    ·rename_i k' hk;exact .head (step_exit hk) (ih _ st Z ψ a w hx k t)
    ·cases hx
   |ret=>exact⟨a,w,_,rQ st Z ψ a w (by simpa only[az] using hx) k t,.one step_ret⟩
   |region id ops draw =>
    simp only[az]at hx
    obtain⟨Zf,k,t⟩:=OQ (ann (500000+id)) k t
    have hw:=Et V hm (Q:=fun e a w=>e=.normal∧∃dX Z ψ,az P Eqs Sg F n ann J ret fu Mm dX=some r∧Ok Z0 w0 O ψ0 Z ψ dX.heap.get w∧cG Z ψ dX.heap.get w n (look dX.tmps) a) hx k t (fun dX Z ψ a w h1 h2 h3=>⟨rfl,dX,Z,ψ,h1,h2,h3⟩)
    obtain⟨e,a',w',⟨rfl,dX,Z',ψ',h1,h2,h3⟩,Oh⟩:=hw b Mm cs
    exact .steps Oh (ih Mm dX Z' ψ' a' w' h1 h2 h3)
   |_=>simp only[az]at hx;cases hx
  |_=>simp only[az]at hx;cases hx
theorem qp{hh:Heap}{n:Nat}{s:List (Nat×AV)}{a:Act}(g:Good Z ψ hh.get w B0 O)(t:cG Z ψ hh.get w n (look s) a):∀(l:List ResultVar) (acc:Array Value) (vs:List AV),wV P hh s l=some vs →
  ∃us,(l.foldlM (fun(bs:Array Value) r=>do let y ←(match r with | .tmp t=>pure (a.tmps.getD t undef) | .cell p ty=>do loadVar ty (←asAddr (a.tmps.getD p undef)):Sem Value);pure (bs.push y)) acc:Sem (Array Value)).run P w=.ok (acc++us.toArray) w∧ak Z ψ hh.get w vs us
 |[],acc,vs,hx=>by
  simp only[wV]at hx
  cases hx
  exact⟨[],by simp,by simp only[ak]⟩
 |.tmp d::l,acc,vs,hx=>by
  simp only[wV]at hx
  split at hx
  ·rename_i gL h1
   cases hx
   obtain⟨us,h2,h3⟩:=qp g t l (acc.push (a.tmps.getD d undef)) gL h1
   refine⟨a.tmps.getD d undef::us,?_,by simp only[ak];exact⟨_,_,rfl,t.rep d,h3⟩⟩
   simp only[List.foldlM_cons,Sem.run_bind,Sem.run_pure,Result.andThen_ok]
   rw[h2];simp
  ·cases hx
 |.cell d ty::l,acc,vs,hx=>by
  simp only[wV]at hx
  split at hx
  ·rename_i id sz off hd
   split at hx
   ·rename_i bt cs hg
    split at hx
    ·rename_i v gL hv h1
     cases hx
     have h4:=t.rep d
     rw[hd]at h4
     simp only[av]at h4
     obtain⟨ad,h5,h6⟩:=h4
     obtain⟨gg,ws,e1,e2,e3,e4⟩:=g.box id bt cs hg
     have h7:=h6 (by rw[hg];simp)
     rw[e1]at h7
     simp only[Sj,Nat.zero_mul,Nat.zero_add]at h7
     subst h7
     obtain⟨V,h8,h9⟩:=jy (a:=⟨gg,off,none⟩) (e3.drop off) (fun j u hu=>by
      rw[cg];simp only[World.cell?,e2];rw[List.getElem?_drop]at hu;simpa using hu) hv
     have mO:(loadVar ty ⟨gg,off,none⟩).run P w=.ok V w:=by
      have:=h8
      simpa[Instr.loadAt,Instr.sureAddr] using this
     obtain⟨us,h2,h3⟩:=qp g t l (acc.push V) gL h1
     refine⟨V::us,?_,by simp only[ak];exact⟨_,_,rfl,h9,h3⟩⟩
     have xS:(asAddr (a.tmps.getD d undef)).run P w=.ok ⟨gg,off,none⟩ w:=by rw[h5];rfl
     simp only[List.foldlM_cons,Sem.run_bind,xS,Sem.run_pure,Result.andThen_ok,mO]
     rw[h2];simp
    ·cases hx
   ·cases hx
  ·cases hx
theorem Gl{fn:Func}{hh:Heap}{n:Nat}{s:List (Nat×AV)}{a:Act}{vs:List AV}(g:Good Z ψ hh.get w B0 O)(t:cG Z ψ hh.get w n (look s) a)(hx:wV P hh s fn.results.toList=some vs) :
  ∃us v,(results fn a.tmps).run P w=.ok v w∧ak Z ψ hh.get w vs us∧v=(if us.length=1 then us.headD undef else .tuple us.toArray):=by
 obtain⟨us,h1,h2⟩:=qp (P:=P) g t fn.results.toList #[] vs hx
 refine⟨us,_,?_,h2,rfl⟩
 have h3:(fn.results.mapM fun r=>(match r with | .tmp t=>pure (a.tmps.getD t undef) | .cell p ty=>do loadVar ty (←asAddr (a.tmps.getD p undef)):Sem Value)).run P w=.ok us.toArray w:=by
  rw[Array.mapM_eq_foldlM,←Array.foldlM_toList]
  simpa using h1
 have h4:results fn a.tmps=(do
   let vs ←fn.results.mapM fun r=>(match r with | .tmp t=>pure (a.tmps.getD t undef) | .cell p ty=>do loadVar ty (←asAddr (a.tmps.getD p undef)):Sem Value)
   pure (if h:vs.size=1 then vs[0] else .tuple vs)):=rfl
 rw[h4,Sem.run_bind,h3,Result.andThen_ok,Sem.run_pure]
 congr 1
 by_cases h5:us.length=1
 ·obtain⟨u,rfl⟩:=List.length_eq_one_iff.1 h5
  simp
 ·rw[dif_neg (by simpa using h5),if_neg h5]
end Go.Vs
namespace Go.Vs
variable {P:Program} {Eqs:TypeId→Option K} {Sg:FuncId→Option aJ} {F:(f:FuncId)→(g:aJ)→g.A→Option g.B} {R:Type}
variable {Z Z' Z0:Nat→Prop} {ψ ψ' ψ0:Nat→Value} {h h':Hp} {w w' w0:World} {B0:Nat} {O N:Nat→Prop}
theorem fS:∀(ps:List PK) (ids:List Nat) (s:Nat) (x:Fy (kz ps)) (us:List Value),ak Z ψ h w ((aO ps ids s x).map (·.2)) us→us.length=ps.length∧∀p∈aO ps ids s x,∃j u,p.1=s+j∧us[j]? = some u∧av Z ψ h w p.2 u
 |[],ids,s,x,us,hr=>by
  simp only[aO,List.map_nil,ak]at hr
  subst hr
  exact⟨rfl,fun p hp=>by simp[aO]at hp⟩
 |.val k::ps,ids,s,x,us,hr=>by
  simp only[aO,List.map_cons,ak]at hr
  obtain⟨u,iF,rfl,h1,h2⟩:=hr
  obtain⟨h3,h4⟩:=fS ps ids (s+1) x.2 iF h2
  refine⟨by simp[h3],fun p hp=>?_⟩
  simp only[aO]at hp
  rcases List.mem_cons.1 hp with rfl|hp
  ·exact⟨0,u,rfl,rfl,h1⟩
  ·obtain⟨j,u',h5,h6,h7⟩:=h4 p hp
   exact⟨j+1,u',by omega,by simpa using h6,h7⟩
 |.ref::ps,i::ids,s,x,us,hr=>by
  simp only[aO,List.map_cons,ak]at hr
  obtain⟨u,iF,rfl,h1,h2⟩:=hr
  obtain⟨h3,h4⟩:=fS ps ids (s+1) x iF h2
  refine⟨by simp[h3],fun p hp=>?_⟩
  simp only[aO]at hp
  rcases List.mem_cons.1 hp with rfl|hp
  ·exact⟨0,u,rfl,rfl,h1⟩
  ·obtain⟨j,u',h5,h6,h7⟩:=h4 p hp
   exact⟨j+1,u',by omega,by simpa using h6,h7⟩
 |.ref::ps,[],s,x,us,hr=>by
  simp only[aO,List.map_cons,ak]at hr
  obtain⟨u,iF,rfl,h1,h2⟩:=hr
  obtain⟨h3,h4⟩:=fS ps [] (s+1) x iF h2
  refine⟨by simp[h3],fun p hp=>?_⟩
  simp only[aO]at hp
  rcases List.mem_cons.1 hp with rfl|hp
  ·exact⟨0,u,rfl,rfl,h1⟩
  ·obtain⟨j,u',h5,h6,h7⟩:=h4 p hp
   exact⟨j+1,u',by omega,by simpa using h6,h7⟩
 |.own::ps,i::ids,s,x,us,hr=>by
  simp only[aO,List.map_cons,ak]at hr
  obtain⟨u,iF,rfl,h1,h2⟩:=hr
  obtain⟨h3,h4⟩:=fS ps ids (s+1) x iF h2
  refine⟨by simp[h3],fun p hp=>?_⟩
  simp only[aO]at hp
  rcases List.mem_cons.1 hp with rfl|hp
  ·exact⟨0,u,rfl,rfl,h1⟩
  ·obtain⟨j,u',h5,h6,h7⟩:=h4 p hp
   exact⟨j+1,u',by omega,by simpa using h6,h7⟩
 |.own::ps,[],s,x,us,hr=>by
  simp only[aO,List.map_cons,ak]at hr
  obtain⟨u,iF,rfl,h1,h2⟩:=hr
  obtain⟨h3,h4⟩:=fS ps [] (s+1) x iF h2
  refine⟨by simp[h3],fun p hp=>?_⟩
  simp only[aO]at hp
  rcases List.mem_cons.1 hp with rfl|hp
  ·exact⟨0,u,rfl,rfl,h1⟩
  ·obtain⟨j,u',h5,h6,h7⟩:=h4 p hp
   exact⟨j+1,u',by omega,by simpa using h6,h7⟩
 |.Fp f m::ps,ids,s,x,us,hr=>by
  simp only[aO,List.map_cons,ak]at hr
  obtain⟨u,iF,rfl,h1,h2⟩:=hr
  obtain⟨h3,h4⟩:=fS ps (ids.drop m) (s+1) x iF h2
  refine⟨by simp[h3],fun p hp=>?_⟩
  simp only[aO]at hp
  rcases List.mem_cons.1 hp with rfl|hp
  ·exact⟨0,u,rfl,rfl,h1⟩
  ·obtain⟨j,u',h5,h6,h7⟩:=h4 p hp
   exact⟨j+1,u',by omega,by simpa using h6,h7⟩
 |.agg m::ps,ids,s,x,us,hr=>by
  simp only[aO,List.map_cons,ak]at hr
  obtain⟨u,iF,rfl,h1,h2⟩:=hr
  obtain⟨h3,h4⟩:=fS ps (ids.drop m) (s+1) x iF h2
  refine⟨by simp[h3],fun p hp=>?_⟩
  simp only[aO]at hp
  rcases List.mem_cons.1 hp with rfl|hp
  ·exact⟨0,u,rfl,rfl,h1⟩
  ·obtain⟨j,u',h5,h6,h7⟩:=h4 p hp
   exact⟨j+1,u',by omega,by simpa using h6,h7⟩
section
variable {An:FuncId→Nat→Option Shape}
theorem Ah(V:Env P Eqs Sg F)(hm:P.follows .mixedOrders=true){f:FuncId}{g:aJ}{fn:Func}{y:g.B}{b:Frame}{cs:List Frame}{tj:Act→World→Prop}
  (rQ:∀st Z ψ a w,qc P g fn st=some y→Ok Z0 w0 O ψ0 Z ψ st.heap.get w→cG Z ψ st.heap.get w fn.ntmps (look st.tmps) a→tj a w) :
  ∀(n:Nat) (sh:Shape) (c:Code) (k:List Item) (x:sh.T) (Z:Nat→Prop) (ψ:Nat→Value) (a:Act) (w:World),mf P Eqs Sg An F f g fn n sh (.inLoop c::k) x=some y →
   Ok Z0 w0 O ψ0 Z ψ (an sh x).heap.get w→cG Z ψ (an sh x).heap.get w fn.ntmps (look (an sh x).tmps) a→Reach P b cs tj (lone (b.at a (.code c::.inLoop c::k)) cs w)
 |0,sh,c,k,x,Z,ψ,a,w,hx,_,_=>by simp only[mf]at hx;cases hx
 |n+1,sh,c,k,x,Z,ψ,a,w,hx,ko,t=>by
  simp only[mf]at hx
  exact qo V hm (fun sh c k x Z ψ a w h1 h2 h3=>Ah V hm rQ n sh c k x Z ψ a w h1 h2 h3) rQ fuel _ _ Z ψ a w hx ko t
theorem Eu{n i:Nat}(h:i∈aM n):∃j,j<n∧i=1000+20*j:=by
 unfold aM at h
 obtain⟨j,h1,rfl⟩:=List.mem_map.1 h
 exact⟨j,List.mem_range.1 h1,rfl⟩
theorem OR{α:Type}{l:List α}{a:α}(h:a∈l):(a,a)∈l.zip l:=by
 induction l with
 |nil=>cases h
 |cons b r ih =>
  simp only[List.zip_cons_cons]
  rcases List.mem_cons.1 h with rfl|h
  ·exact List.mem_cons_self
  ·exact List.mem_cons_of_mem _ (ih h)
theorem Jk(V:Env P Eqs Sg F)(hm:P.follows .mixedOrders=true){f:FuncId}{g:aJ}{n:Nat}{x:g.A}{y:g.B}(hx:IJ P Eqs Sg An F f g n x=some y):CX P f g x y:=by
 intro Z ψ0 w j5 hg hr
 unfold IJ at hx
 split at hx
 ·cases hx
 rename_i fn c UA
 have hf:P.funcs[f%1000]? = some fn∧fn.body=some c:=by
  unfold body at UA
  obtain⟨fn',h1,h2⟩:=Option.bind_eq_some_iff.1 UA
  obtain⟨c',h3,h4⟩:=Option.map_eq_some_iff.1 h2
  cases h4
  exact⟨h1,h3⟩
 split at hx
 ·rename_i hle
  simp only[Bool.and_eq_true,decide_eq_true_eq]at hle
  obtain⟨hlen,V8⟩:=fS g.ps (aM g.bs.length) 0 x.1 j5 hr
  intro cs
  let b:Frame:={ (default:Frame) with fn:=f%1000,kind:=.normal }
  let a0:Act:={ tmps:=j5.toArray++Array.replicate (fn.ntmps-j5.toArray.size) undef,defers:=[] }
  have V9:Frame.enter P (f%1000) j5.toArray .normal=b.at a0 [.code c]:=by
   simp[Frame.enter,Frame.at,hf.1,hf.2,b,a0]
  have ok0:Ok Z w (Own ψ0 (oG g x)) ψ0 Z ψ0 (entry g x).heap.get w :=
   ⟨hg,fun _ h=>h,fun _ h=>.inl h,rfl,rfl,rfl,Nat.le_refl _,fun _ _ _=>rfl,fun _ _ _=>rfl⟩
  have tr0:cG Z ψ0 (entry g x).heap.get w fn.ntmps (look (entry g x).tmps) a0:=by
   refine eF (fun p hp=>?_) (by simp[a0];omega) rfl
   obtain⟨j,u,h1,h2,h3⟩:=V8 p hp
   rw[h1]
   have hj:j<j5.length:=(List.getElem?_eq_some_iff.1 h2).1
   have:a0.tmps.getD (0+j) undef=u:=by
    rw[Nat.zero_add,Array.getD_eq_getD_getElem?]
    simp only[a0]
    rw[Array.getElem?_append_left (by simpa using hj)]
    simp[h2]
   rw[this];exact h3
  have rQ:∀st Z1 m8 a w1,qc P g fn st=some y→Ok Z w (Own ψ0 (oG g x)) ψ0 Z1 m8 st.heap.get w1→cG Z1 m8 st.heap.get w1 fn.ntmps (look st.tmps) a →
    a.defers=[]∧∃v,(results fn a.tmps).run P w1=.ok v w1∧∃v' Z' ψ',Ending.returned v=.returned v'∧(∀b,Z b→Z' b)∧(∀b,Z' b→Z b∨Own ψ0 (oG g x) b∨w.heap.size≤b)∧cW ψ0 (oG g x) w w1 ∧
     Good Z' ψ' (jF g y).get w1 w.heap.size (Own ψ0 (oG g x))∧(∀i∈aM g.bs.length,ψ' i=ψ0 i)∧av Z' ψ' (jF g y).get w1 (eQ (aP g.rs (aM g.bs.length) 2000 3000 y.1)) v':=by
   intro st Z1 m8 a w1 rQ k t
   refine⟨t.defers,?_⟩
   unfold qc at rQ
   split at rQ
   ·cases rQ
   rename_i vs qX
   split at rQ
   ·rename_i y1 y2 hd hb Ck
    cases rQ
    simp only[Bool.and_eq_true]at Ck
    obtain⟨Gj,zT⟩:=Ck
    obtain⟨us,v,h1,h2,h3⟩:=Gl (P:=P) k.dL t qX
    have Uz:(aM g.bs.length).length=g.bs.length:=by simp[aM]
    let L:List w8:=cr g.bs st.heap (aM g.bs.length) (aM g.bs.length) 2000 y2++cw g.rs vs 3000 y1
    have eH:dy L=jF g (y1,y2):=by
     show dy (_++_)=_
     rw[mo,iR _ _ _ _ _ _ hb Uz,gi];rfl
    have eN:L.map (·.1)=pT g:=by
     show(_++_:List w8).map _=_
     rw[List.map_append,gK _ _ _ _ _ _ hb Uz,fq];rfl
    have eS:L.filterMap (·.2.1)=cV g.bs st.heap (aM g.bs.length)++dH g.rs vs:=by
     show(_++_:List w8).filterMap _=_
     rw[List.filterMap_append,j0 _ _ _ _ _ _ hb Uz,im _ _ _ _ hd]
    have hn:b4 (L.map (·.1))=true:=by rw[eN];exact zT
    have iJ:=yl (ψ:=m8) hn
    have hz:∀b,Z1 b→pQ Z1 m8 st.heap.get (fM g.rs vs++fL g.bs st.heap (aM g.bs.length)) b:=fun b hb=>.inl hb
    have Iz:=(ri Gj).2 st.heap
    have g':Good (pQ Z1 m8 st.heap.get (fM g.rs vs++fL g.bs st.heap (aM g.bs.length))) (eE m8 L) (dy L).get w1 w.heap.size (Own ψ0 (oG g x)):=by
     refine vO k.dL Gj hn eS fun e he=>?_
     rcases List.mem_append.1 he with he|he
     ·exact lB k.dL hz g.bs _ _ 2000 y2 hb (fun id b bL h1 h2=>.inr ⟨id,List.mem_append_right _ bL,h1,h2⟩) (fun s hs=>Iz s (List.mem_append_left _ hs)) (fun e he=>iJ e (List.mem_append_left _ he)) e he
     ·exact jE g.rs vs 3000 y1 hd (fun s hs=>Iz s (List.mem_append_right _ hs)) e he
    obtain⟨Da,zX⟩:=iS _ _ _ hb
    have OT:=rj (ids2:=aM g.bs.length) (Z':=pQ Z1 m8 st.heap.get (fM g.rs vs++fL g.bs st.heap (aM g.bs.length))) (ψ':=eE m8 L) (h':=(dy L).get) k.dL hz hb Uz (fun e he=>iJ e (List.mem_append_left _ he)) g.rs vs 3000 y1 us hd
     (fun id b bL h1 h2=>.inr ⟨id,List.mem_append_left _ bL,h1,h2⟩) (fun e he=>iJ e (List.mem_append_right _ he)) h2
    refine⟨v,h1,v,pQ Z1 m8 st.heap.get (fM g.rs vs++fL g.bs st.heap (aM g.bs.length)),eE m8 L,rfl,fun b hb=>.inl (k.fD b hb),fun b hb=>?_,⟨k.os,k.tape,k.output,k.size,k.block⟩,by rw[←eH];exact g',fun i hi=>?_,?_⟩
    ·rcases KB hb with h4|⟨id,h4,h5⟩
     ·exact k.dY b h4
     ·exact .inr (k.dL.live id b h4 h5).2.symm
    ·obtain⟨o,ho⟩:=j4 (hh:=st.heap) g.bs (aM g.bs.length) (aM g.bs.length) 2000 y2 Da (i,i) (OR hi)
     rw[il hn (List.mem_append_left _ ho)]
     obtain⟨j,h4,h5⟩:=Eu hi
     exact k.fix i (by omega) (zX i hi)
    ·rw[←eH]
     have NS:us.length=(aP g.rs (aM g.bs.length) 2000 3000 y1).length:=OT.length.symm
     rw[h3]
     match hE:aP g.rs (aM g.bs.length) 2000 3000 y1,us,OT,NS with
     |[],[],OT,_=>simp only[eQ];simp only[av];exact⟨#[],rfl,by simpa using OT⟩
     |[e1],[u],OT,_ =>
      simp only[ak]at OT
      obtain⟨u',iF,he,h4,_⟩:=OT
      cases he
      simpa[eQ] using h4
     |e1::e2::er,u1::u2::ur,OT,_ =>
      simp only[eQ,av]
      exact⟨(u1::u2::ur).toArray,by simp,by simpa using OT⟩
   ·cases rQ
  have reach:=qo V hm (b:=b) (cs:=cs) (fun sh c k x Z ψ a w h1 h2 h3=>Ah V hm rQ n sh c k x Z ψ a w h1 h2 h3) rQ fuel _ _ Z ψ0 a0 w hx ok0 tr0
  obtain⟨a',w',todo,⟨hd,v,uB,hR⟩,hs⟩:=reach
  rw[←V9]at hs
  exact⟨.returned v,w',_,hR,hs,rfl,rfl,hd,rfl,fn,hf.1,uB⟩
 ·cases hx
end
theorem Gm(hX:∀f g u,Sg f=some g→g.x=some u→gy P (f%1000) u){G:(f:FuncId)→(g:aJ)→Option (g.A→Option g.B)}{An:FuncId→Nat→Option Shape}(B5:∀t k,Eqs t=some k→ly P t k)(L8:∀f g,Sg f=some g→iU P (f%1000))(hm:P.follows .mixedOrders=true)
  (hG:∀f g u x y,Sg f=some g→G f g=some u→u x=some y→CX P f g x y):∀(m:Nat) f g x y,Sg f=some g→Fn P Eqs Sg An G m f g x=some y→CX P f g x y
 |0,f,g,x,y,hs,hx=>by
  simp only[Fn]at hx
  split at hx
  ·rename_i u hu;exact hG f g u x y hs hu hx
  ·cases hx
 |m+1,f,g,x,y,hs,hx=>by
  simp only[Fn]at hx
  split at hx
  ·rename_i u hu;exact hG f g u x y hs hu hx
  ·exact Jk ⟨B5,fun f g x y h1 h2=>Gm hX B5 L8 hm hG m f g x y h1 h2,hX,L8⟩ hm hx
end Go.Vs
namespace Go.Vs
abbrev FT:=(f:FuncId)→(g:aJ)→g.A→Option g.B
variable {P:Program} {Eqs:TypeId→Option K} {Sg:FuncId→Option aJ} {R:Type}
def tK(p:Nat→Prop):Prop:=∃m,∀m',m≤m'→p m'
theorem tK.now{p:Nat→Prop}(h:∀m,p m):tK p:=⟨0,fun m _=>h m⟩
theorem tK.and{p q r:Nat→Prop}(h:tK p)(k:tK q)(hr:∀m,p m→q m→r m):tK r:=by
 obtain⟨a,ha⟩:=h
 obtain⟨b,hb⟩:=k
 exact⟨max a b,fun m hm=>hr m (ha m (by omega)) (hb m (by omega))⟩
theorem tK.imp{p r:Nat→Prop}(h:tK p)(hr:∀m,p m→r m):tK r:=by
 obtain⟨a,ha⟩:=h
 exact⟨a,fun m hm=>hr m (ha m hm)⟩
def To(A:Nat→FT)(L:FT):Prop:=∀f g x y,L f g x=some y→tK fun m=>A m f g x=some y
def ToK{α:Type}(A:Nat→α→Option R)(L:α→Option R):Prop:=∀x y,L x=some y→tK fun m=>A m x=some y
def ToJ(A:Nat→(sh:Shape)→List Item→sh.T→Option R)(L:(sh:Shape)→List Item→sh.T→Option R):Prop:=∀sh k x y,L sh k x=some y→tK fun m=>A m sh k x=some y
theorem OU(h:Heap)(id:Nat)(f:FuncId)(vs:List AV):(∀F F':FT,iO Sg F h id f vs some=iO Sg F' h id f vs some) ∨
  ∃ff g x,(∀F F':FT,F ff g x=F' ff g x→iO Sg F h id f vs some=iO Sg F' h id f vs some)∧∀F:FT,F ff g x=none→iO Sg F h id f vs some=none:=by
 unfold iO
 split
 ·exact .inl fun _ _=>rfl
 rename_i g hg
 split
 ·exact .inl fun _ _=>rfl
 split
 ·split
  ·split
   ·rename_i x b hx hb hp
    refine .inr ⟨_,g,(x,b),fun F F' e=>by rw[e],fun F e=>by rw[e];rfl⟩
   ·exact .inl fun _ _=>rfl
  ·split
   ·rename_i x b hx hb hp
    refine .inr ⟨_,g,(x,b),fun F F' e=>by rw[e],fun F e=>by rw[e];rfl⟩
   ·exact .inl fun _ _=>rfl
 ·exact .inl fun _ _=>rfl
theorem SW{A:Nat→FT}{L:FT}(hA:To A L){h:Heap}{id:Nat}{f:FuncId}{vs:List AV}{e:bE}(he:iO Sg L h id f vs some=some e):tK fun m=>iO Sg (A m) h id f vs some=some e:=by
 rcases OU (Sg:=Sg) h id f vs with k|⟨ff,g,x,k1,k2⟩
 ·exact .now fun m=>(k _ _).trans he
 ·cases hy:L ff g x with
  |none=>rw[k2 L hy]at he;cases he
  |some y=>exact(hA _ _ _ _ hy).imp fun m hm=>(k1 (A m) L (hm.trans hy.symm)).trans he
theorem Gn{A:Nat→FT}{L:FT}(hA:To A L){id:Nat}{h:Heap}{s:List (Nat×AV)}{o:Oper}{e:bE}(he:cM P Eqs Sg L id h s o some=some e):tK fun m=>cM P Eqs Sg (A m) id h s o some=some e:=by
 obtain⟨dst,op,type,pos,after,guard⟩:=o
 cases op with
 |call c =>
  obtain⟨callee,args,argTypes⟩:=c
  cases callee with
  |value f =>
   simp only[cM]at he
   split at he
   ·rename_i f' cap hf
    refine(SW hA he).imp fun m hm=>?_
    simp only[cM,hf]
    exact hm
   ·cases he
  |builtin bi=>cases bi<;>exact .now fun m=>he
  |invoke _ _=>exact .now fun m=>he
 |unOp u _ _=>cases u<;>exact .now fun m=>he
 |makeFunc fn _ _=>cases fn<;>exact .now fun m=>he
 |makeMap _ r=>cases r<;>exact .now fun m=>he
 |next _ b=>cases b<;>exact .now fun m=>he
 |_=>exact .now fun m=>he
theorem tK.all{p:Nat→Nat→Prop}:∀(n:Nat),(∀j,j<n→tK (p j))→tK fun m=>∀j,j<n→p j m
 |0,_=>.now fun m j hj=>absurd hj (Nat.not_lt_zero _)
 |n+1,h=>(tK.all n fun j hj=>h j (by omega)).and (h n (by omega)) fun m h1 h2 j hj=>by
  by_cases e:j=n
  ·subst e;exact h2
  ·exact h1 j (by omega)
theorem Jl{h:Heap}{x:AV}{K:Nat→AV→Heap→Option R}{KL:AV→Heap→Option R}(hK:∀v h y,KL v h=some y→tK fun m=>K m v h=some y){r:R}(he:kP h x KL=some r):tK fun m=>kP h x (K m)=some r:=by
 unfold kP at he ⊢
 split at he
 ·rename_i id
  split at he
  ·rename_i kk vk p hg
   try simp only[hg]
   cases hp:p.2 with
   |nil =>
    simp only[hp,List.isEmpty_nil,cond_true]at he ⊢
    exact hK _ _ _ he
   |cons c l =>
    simp only[hp,List.isEmpty_cons,cond_false]at he ⊢
    have h1:=nD he
    refine(tK.all _ fun j hj=>?_).imp fun m hm=>kR (by simp) hm
    have h2:=h1 j hj
    rw[List.getElem?_eq_getElem hj]at h2 ⊢
    simp only[Option.bind_some]at h2 ⊢
    exact hK _ _ _ h2
  ·cases he
 ·cases he
theorem OV{h:Heap}{x:AV}{want:Bool}{K:Nat→AV→Option R}{KL:AV→Option R}(hK:∀v y,KL v=some y→tK fun m=>K m v=some y){r:R}(he:tS h x want KL=some r):tK fun m=>tS h x want (K m)=some r:=by
 unfold tS at he ⊢
 split at he
 ·exact hK _ _ he
 ·rename_i xs hv
  cases qY:xs.isEmpty with
  |true =>
   simp only[qY,cond_true]at he ⊢
   have h1:=nD he
   exact(tK.all _ fun j hj=>hK _ _ (h1 j hj)).imp fun m hm=>kR (by decide) hm
  |false =>
   simp only[qY,cond_false]at he ⊢
   exact hK _ _ he
 ·cases he
theorem Ai{A:Nat→FT}{L:FT}(hA:To A L){rid:Nat}{draw:Bool}{ops:Array Oper}{b:Array Nat}{K:Nat→St→Option R}{KL:St→Option R}(hK:ToK K KL) :
  ∀(l:List (Nat×Oper)) (st:St) (r:R),bA P Eqs Sg L rid draw ops b l st KL=some r→tK fun m=>bA P Eqs Sg (A m) rid draw ops b l st (K m)=some r
 |[],st,r,he=>hK st r (by simpa only[bA] using he)
 |(i,o)::l,st,r,he=>by
  have ih:=Ai hA (rid:=rid) (draw:=draw) (ops:=ops) (b:=b) hK l
  have run:∀st:St,(match (if draw then none else om P (opId rid i) st o) with
    |some dX=>bA P Eqs Sg L rid draw ops b l dX KL
    |none=>match (if draw then none else tR o) with
    |some x=>kP st.heap (ρ st.tmps x) fun v h=>bA P Eqs Sg L rid draw ops b l (({ st with heap:=h }:St).put o.dst v) KL
    |none=>match (if draw then none else isNil P o) with
    |some (x,want)=>tS st.heap (ρ st.tmps x) want fun v=>bA P Eqs Sg L rid draw ops b l (st.put o.dst v) KL
    |none=>if draw then cM P Eqs Sg L (opId rid i) (gG (ahead rid (b.getD i 0) st.heap) (gH ops b i st.tmps o)) st.tmps o fun e =>
     if(gu true rid ops b i (b.getD i 0) (gx (gH ops b i st.tmps o) (ahead rid (b.getD i 0) st.heap) e)&&mL (gH ops b i st.tmps o) e)=true then
      bA P Eqs Sg L rid draw ops b l ({ st with heap:=match gx (gH ops b i st.tmps o) (ahead rid (b.getD i 0) st.heap) e with | .wr _ h=>h|e=>e.h st.heap }.put o.dst e.v) KL else none
     else cM P Eqs Sg L (opId rid i) st.heap st.tmps o fun e =>
     if gu false rid ops b i (2 ^ i-1) e then bA P Eqs Sg L rid draw ops b l ({ st with heap:=match e with | .wr _ h=>h|e=>e.h st.heap }.put o.dst e.v) KL else none)=some r →
    tK fun m=>(match (if draw then none else om P (opId rid i) st o) with
    |some dX=>bA P Eqs Sg (A m) rid draw ops b l dX (K m)
    |none=>match (if draw then none else tR o) with
    |some x=>kP st.heap (ρ st.tmps x) fun v h=>bA P Eqs Sg (A m) rid draw ops b l (({ st with heap:=h }:St).put o.dst v) (K m)
    |none=>match (if draw then none else isNil P o) with
    |some (x,want)=>tS st.heap (ρ st.tmps x) want fun v=>bA P Eqs Sg (A m) rid draw ops b l (st.put o.dst v) (K m)
    |none=>if draw then cM P Eqs Sg (A m) (opId rid i) (gG (ahead rid (b.getD i 0) st.heap) (gH ops b i st.tmps o)) st.tmps o fun e =>
     if(gu true rid ops b i (b.getD i 0) (gx (gH ops b i st.tmps o) (ahead rid (b.getD i 0) st.heap) e)&&mL (gH ops b i st.tmps o) e)=true then
      bA P Eqs Sg (A m) rid draw ops b l ({ st with heap:=match gx (gH ops b i st.tmps o) (ahead rid (b.getD i 0) st.heap) e with | .wr _ h=>h|e=>e.h st.heap }.put o.dst e.v) (K m) else none
     else cM P Eqs Sg (A m) (opId rid i) st.heap st.tmps o fun e =>
     if gu false rid ops b i (2 ^ i-1) e then bA P Eqs Sg (A m) rid draw ops b l ({ st with heap:=match e with | .wr _ h=>h|e=>e.h st.heap }.put o.dst e.v) (K m) else none)=some r:=by
   intro st h
   split at h
   ·rename_i dX nC
    try simp only[nC]
    exact ih _ r h
   rename_i nC
   split at h
   ·rename_i x C2
    try simp only[nC,C2]
    exact Jl (fun v h y hy=>ih _ y hy) h
   rename_i C2
   split at h
   ·rename_i x want YC
    try simp only[nC,C2,YC]
    exact OV (fun v y hy=>ih _ y hy) h
   rename_i YC
   try simp only[nC,C2,YC]
   cases draw with
   |true =>
    simp only[if_true]at h ⊢
    rw[lf]at h
    obtain⟨e,h1,h2⟩:=Option.bind_eq_some_iff.1 h
    by_cases hc:(gu true rid ops b i (b.getD i 0) (gx (gH ops b i st.tmps o) (ahead rid (b.getD i 0) st.heap) e)&&mL (gH ops b i st.tmps o) e)=true
    ·rw[if_pos hc]at h2
     refine(Gn hA h1).and (ih _ r h2) fun m h3 h4=>?_
     rw[lf,h3,Option.bind_some,if_pos hc]
     exact h4
    ·rw[if_neg hc]at h2;cases h2
   |false =>
    simp only[Bool.false_eq_true,if_false]at h ⊢
    rw[lf]at h
    obtain⟨e,h1,h2⟩:=Option.bind_eq_some_iff.1 h
    by_cases hc:gu false rid ops b i (2 ^ i-1) e=true
    ·rw[if_pos hc]at h2
     refine(Gn hA h1).and (ih _ r h2) fun m h3 h4=>?_
     rw[lf,h3,Option.bind_some,if_pos hc]
     exact h4
    ·rw[if_neg hc]at h2;cases h2
  simp only[bA]at he ⊢
  split at he
  ·rename_i hg
   try simp only[hg]
   exact run _ he
  ·rename_i j want hg
   try simp only[hg]
   split at he
   ·cases he
   ·rename_i d hd
    try simp only[hd]
    split at he
    ·rename_i t ht
     try simp only[ht]
     cases t<;>cases want<;>simp only[cond_true,cond_false,if_true,if_false,Bool.false_eq_true]at he ⊢<;>first|exact run _ he|exact ih _ r he
    ·rename_i ht
     try simp only[ht]
     exact ih _ r he
    ·cases he
theorem Cp{A:Nat→FT}{L:FT}(hA:To A L){n rid:Nat}{ops:Array Oper}{draw:Bool}{K:Nat→St→Option R}{KL:St→Option R}(hK:ToK K KL){st:St}{r:R}
  (he:g6 P Eqs Sg L n rid ops draw st KL=some r):tK fun m=>g6 P Eqs Sg (A m) n rid ops draw st (K m)=some r:=by
 unfold g6 at he ⊢
 by_cases hc:((ops.all fun o=>gZ n o)&&(!draw || (tO ops (if draw then Region.before ops else #[])&&(zd ops (if draw then Region.before ops else #[])&&b4 (ops.toList.filterMap (·.dst)))))&&decide (ops.size≤128))=true
 ·dsimp only at he ⊢
  rw[if_pos hc]at he
  refine(Ai hA hK _ _ r he).imp fun m hm=>?_
  rw[if_pos hc]
  exact hm
 ·dsimp only at he
  rw[if_neg hc]at he;cases he
theorem gk{A:Nat→FT}{L:FT}(hA:To A L){n:Nat}{ann:Nat→Option Shape}{J:Nat→(sh:Shape)→List Item→sh.T→Option R}{JL:(sh:Shape)→List Item→sh.T→Option R}(hJ:ToJ J JL){ret:St→Option R} :
  ∀(fu:Nat) (items:List Item) (st:St) (r:R),az P Eqs Sg L n ann JL ret fu items st=some r→tK fun m=>az P Eqs Sg (A m) n ann (J m) ret fu items st=some r
 |0,items,st,r,he=>by cases items<;>simp only[az]at he<;>cases he
 |fu+1,[],st,r,he=>.now fun m=>by simpa only[az] using he
 |fu+1,it::Mm,st,r,he=>by
  have ih:=gk hA (n:=n) (ann:=ann) hJ (ret:=ret) fu
  cases it with
  |inBlock id=>simp only[az]at he ⊢;exact ih _ _ _ he
  |inScope c=>simp only[az]at he ⊢;exact ih _ _ _ he
  |inLoop c =>
   simp only[az]at he ⊢
   split at he
   ·cases he
   ·rename_i sh hsh
    try simp only[hsh]
    split at he
    ·rename_i x hx
     try simp only[hx]
     exact hJ _ _ _ _ he
    ·cases he
  |code c =>
   cases c with
   |cond c x y =>
    simp only[az]at he ⊢
    split at he
    ·rename_i t ht
     try simp only[ht]
     cases t<;>simp only[cond_true,cond_false]at he ⊢<;>exact ih _ _ _ he
    ·cases he
   |exit id =>
    simp only[az]at he ⊢
    split at he
    ·rename_i k' hk
     try simp only[hk]
     exact ih _ _ _ he
    ·cases he
   |ret=>exact .now fun m=>by simpa only[az] using he
   |region id ops draw =>
    simp only[az]at he ⊢
    exact Cp hA (K:=fun m dX=>az P Eqs Sg (A m) n ann (J m) ret fu Mm dX) (fun st y h=>ih Mm st y h) he
   |skip=>simp only[az]at he ⊢;exact ih _ _ _ he
   |label l=>simp only[az]at he ⊢;exact ih _ _ _ he
   |seq x y=>simp only[az]at he ⊢;exact ih _ _ _ he
   |block id c=>simp only[az]at he ⊢;exact ih _ _ _ he
   |scope c=>simp only[az]at he ⊢;exact ih _ _ _ he
   |loop c=>simp only[az]at he ⊢;exact ih _ _ _ he
   |_=>simp only[az]at he;cases he
  |_=>simp only[az]at he;cases he
section
variable {An:FuncId→Nat→Option Shape} {G:(f:FuncId)→(g:aJ)→Option (g.A→Option g.B)}
def Wa(F F':FT):Prop:=∀f g x y,F f g x=some y→F' f g x=some y
theorem Wa.to{F F':FT}(h:Wa F F'):To (fun _=>F') F:=fun f g x y hy=>.now fun _=>h f g x y hy
theorem tK.get{p:Prop}(h:tK fun _=>p):p:=by obtain⟨m,hm⟩:=h;exact hm m (Nat.le_refl _)
theorem nE{F F':FT}(h:Wa F F'){f:FuncId}{g:aJ}{fn:Func}:∀(n n':Nat) (sh:Shape) (k:List Item) (x:sh.T) (y:g.B),n≤n'→mf P Eqs Sg An F f g fn n sh k x=some y→mf P Eqs Sg An F' f g fn n' sh k x=some y
 |0,_,_,_,_,_,_,hx=>by simp only[mf]at hx;cases hx
 |n+1,0,_,_,_,_,hn,_=>by omega
 |n+1,n'+1,sh,k,x,y,hn,hx=>by
  cases k with
  |nil=>simp only[mf]at hx;cases hx
  |cons it k =>
   cases it with
   |inLoop c =>
    simp only[mf]at hx ⊢
    exact(gk h.to (J:=fun _=>mf P Eqs Sg An F' f g fn n') (JL:=mf P Eqs Sg An F f g fn n) (fun sh k x y hy=>.now fun _=>nE h n n' sh k x y (by omega) hy) _ _ _ _ hx).get
   |_=>simp only[mf]at hx;cases hx
theorem Mn{F F':FT}(h:Wa F F'){f:FuncId}{g:aJ}{n n':Nat}{x:g.A}{y:g.B}(hn:n≤n')(hx:IJ P Eqs Sg An F f g n x=some y):IJ P Eqs Sg An F' f g n' x=some y:=by
 unfold IJ at hx ⊢
 split at hx
 ·cases hx
 ·rename_i fn c hb
  try simp only[hb]
  split at hx
  ·rename_i hc
   simp only[if_pos hc]
   exact(gk h.to (J:=fun _=>mf P Eqs Sg An F' f g fn n') (JL:=mf P Eqs Sg An F f g fn n) (fun sh k x y hy=>.now fun _=>nE h n n' sh k x y hn hy) _ _ _ _ hx).get
  ·cases hx
theorem yx:∀m,Wa (Fn P Eqs Sg An G m) (Fn P Eqs Sg An G (m+1))
 |0,f,g,x,y,hx=>by
  simp only[Fn]at hx ⊢
  split at hx
  ·rename_i u hu;(try simp only[hu]);exact hx
  ·cases hx
 |m+1,f,g,x,y,hx=>by
  rw[Fn]at hx ⊢
  split at hx
  ·rename_i u hu;(try simp only[hu]);exact hx
  ·rename_i hu
   try simp only[hu]
   exact Mn (yx m) (Nat.le_succ m) hx
theorem yy{m m':Nat}(h:m≤m'):Wa (Fn P Eqs Sg An G m) (Fn P Eqs Sg An G m'):=by
 induction h with
 |refl=>exact fun _ _ _ _ h=>h
 |step _ ih=>exact fun f g x y hx=>yx _ f g x y (ih f g x y hx)
variable (P Eqs Sg An G) in
open Classical in
noncomputable def Fix:FT:=fun f g x=>if h:∃m y,Fn P Eqs Sg An G m f g x=some y then some (Classical.choose (Classical.choose_spec h)) else none
theorem Ev:To (Fn P Eqs Sg An G) (Fix P Eqs Sg An G):=fun f g x y hy=>by
 unfold Fix at hy
 split at hy
 ·rename_i h
  cases hy
  exact⟨Classical.choose h,fun m' hm=>yy hm _ _ _ _ (Classical.choose_spec (Classical.choose_spec h))⟩
 ·cases hy
theorem OX{m:Nat}{f:FuncId}{g:aJ}{x:g.A}{y:g.B}(h:Fn P Eqs Sg An G m f g x=some y):Fix P Eqs Sg An G f g x=some y:=by
 have he:∃m y,Fn P Eqs Sg An G m f g x=some y:=⟨m,y,h⟩
 cases hy:Fix P Eqs Sg An G f g x with
 |none=>unfold Fix at hy;rw[dif_pos he]at hy;cases hy
 |some y' =>
  obtain⟨m1,h1⟩:=Ev f g x y' hy
  have h2:=h1 (max m m1) (by omega)
  have h3:=yy (show m≤max m m1 by omega) f g x y h
  rw[h2]at h3
  exact h3
variable (P Eqs Sg An G) in
open Classical in
noncomputable def Lp(f:FuncId)(g:aJ)(fn:Func)(sh:Shape)(k:List Item)(x:sh.T):Option g.B :=
 if h:∃m y,mf P Eqs Sg An (Fn P Eqs Sg An G m) f g fn m sh k x=some y then some (Classical.choose (Classical.choose_spec h)) else none
theorem OY{f:FuncId}{g:aJ}{fn:Func}:ToJ (fun m=>mf P Eqs Sg An (Fn P Eqs Sg An G m) f g fn m) (Lp P Eqs Sg An G f g fn):=fun sh k x y hy=>by
 unfold Lp at hy
 split at hy
 ·rename_i h
  cases hy
  exact⟨Classical.choose h,fun m' hm=>nE (yy hm) _ _ _ _ _ _ hm (Classical.choose_spec (Classical.choose_spec h))⟩
 ·cases hy
theorem YK{m:Nat}{f:FuncId}{g:aJ}{fn:Func}{sh:Shape}{k:List Item}{x:sh.T}{y:g.B}(h:mf P Eqs Sg An (Fn P Eqs Sg An G m) f g fn m sh k x=some y):Lp P Eqs Sg An G f g fn sh k x=some y:=by
 have he:∃m y,mf P Eqs Sg An (Fn P Eqs Sg An G m) f g fn m sh k x=some y:=⟨m,y,h⟩
 cases hy:Lp P Eqs Sg An G f g fn sh k x with
 |none=>unfold Lp at hy;rw[dif_pos he]at hy;cases hy
 |some y' =>
  obtain⟨m1,h1⟩:=OY sh k x y' hy
  have h2:=h1 (max m m1) (by omega)
  have h3:=nE (yy (show m≤max m m1 by omega)) m (max m m1) sh k x y (by omega) h
  exact h2.symm.trans h3
theorem KC{f:FuncId}{g:aJ}{x:g.A}{y:g.B}{fn:Func}{c:Code}(hG:G f g=none)(hb:body P (f%1000)=some (fn,c))(hc:(decide (g.ps.length≤fn.ntmps)&&decide (g.bs.length≤8))=true)
  (h:az P Eqs Sg (Fix P Eqs Sg An G) fn.ntmps (An f) (Lp P Eqs Sg An G f g fn) (qc P g fn) fuel [.code c] (entry g x)=some y):Fix P Eqs Sg An G f g x=some y:=by
 obtain⟨m,hm⟩:=gk (Ev (P:=P) (Eqs:=Eqs) (Sg:=Sg) (An:=An) (G:=G)) (OY (f:=f) (g:=g) (fn:=fn)) _ _ _ _ h
 refine OX (m:=m+1) ?_
 simp only[Fn,hG]
 unfold IJ
 simp only[hb,if_pos hc]
 exact hm m (Nat.le_refl _)
theorem Db{f:FuncId}{g:aJ}{x:g.A}{y:g.B}{u:g.A→Option g.B}(hG:G f g=some u)(h:u x=some y):Fix P Eqs Sg An G f g x=some y:=by
 refine OX (m:=0) ?_
 simp only[Fn,hG]
 exact h
theorem OZ{f:FuncId}{g:aJ}{fn:Func}{sh:Shape}{c:Code}{k:List Item}{x:sh.T}{y:g.B}
  (h:az P Eqs Sg (Fix P Eqs Sg An G) fn.ntmps (An f) (Lp P Eqs Sg An G f g fn) (qc P g fn) fuel (.code c::.inLoop c::k) (an sh x)=some y):Lp P Eqs Sg An G f g fn sh (.inLoop c::k) x=some y:=by
 obtain⟨m,hm⟩:=gk (Ev (P:=P) (Eqs:=Eqs) (Sg:=Sg) (An:=An) (G:=G)) (OY (f:=f) (g:=g) (fn:=fn)) _ _ _ _ h
 refine YK (m:=m+1) ?_
 simp only[mf]
 refine(gk (L:=Fn P Eqs Sg An G m) (Wa.to (yx m)) (J:=fun _=>mf P Eqs Sg An (Fn P Eqs Sg An G (m+1)) f g fn m) (JL:=mf P Eqs Sg An (Fn P Eqs Sg An G m) f g fn m) (fun sh k x y hy=>.now fun _=>nE (yx m) m m sh k x y (Nat.le_refl _) hy) _ _ _ _ (hm m (Nat.le_refl _))).get
theorem yz(hX:∀f g u,Sg f=some g→g.x=some u→gy P (f%1000) u)(B5:∀t k,Eqs t=some k→ly P t k)(L8:∀f g,Sg f=some g→iU P (f%1000))(hm:P.follows .mixedOrders=true)
  (hG:∀f g u x y,Sg f=some g→G f g=some u→u x=some y→CX P f g x y) {f:FuncId} {g:aJ} {x:g.A} {y:g.B} (hs:Sg f=some g) (h:Fix P Eqs Sg An G f g x=some y):CX P f g x y:=by
 obtain⟨m,SB⟩:=Ev f g x y h
 exact Gm hX B5 L8 hm hG m f g x y hs (SB m (Nat.le_refl _))
end
end Go.Vs
namespace Go.Vs
open Go.Proofs
abbrev ab:=((Int×Int)×Int)
abbrev ID:=(Int×Int)
abbrev ag:=(ID×((List ab)×(ByteArray×Int)))
abbrev ah:=(ID×(ByteArray×Int))
abbrev aj:=((List ag)×(List ah))
abbrev aw:=(ab×ab)
abbrev StateT:=(aj×(List aw))
abbrev pn:=(ID×ab)
abbrev ba:=(Int×(ID×(ID×(ID×(pn×(pn×(Bool×(ByteArray×Int))))))))
abbrev aQ:=((List ag)×((List ah)×((List aw)×Unit)))
abbrev lI{α:Type}(l:List α):Int:=((l.length:Nat):Int)
abbrev wI(n:Int):Int:=IntKind.wrap .i64 n
abbrev OI:ID:=(0,0)
abbrev OD:ab:=(OI,0)
abbrev OC:pn:=(OI,OD)
abbrev OB:ByteArray:=⟨#[]⟩
abbrev OS:StateT:=(([],[]),[])
abbrev OW:aQ:=([],([],([],())))
abbrev k13:K:=(.pair .str (.int .u64))
abbrev jr:K:=(.pair (.int .i64) (.int .i64))
abbrev k68:K:=(.pair .str (.pair (.int .i64) .bool))
abbrev bm:K:=(.pair jr (.int .i64))
abbrev k7:K:=(.pair (.int .i64) (.pair (.int .i64) (.pair .bool (.int .u8))))
abbrev eg:K:=(.pair jr (.pair .str (.int .i64)))
abbrev O0:K:=(.pair jr bm)
abbrev cH:K:=(.pair bm bm)
abbrev dm:K:=(.pair jr (.pair (.sl bm) (.pair .str (.int .i64))))
abbrev dS:K:=(.pair (.sl dm) (.sl eg))
abbrev jG:K:=(.pair dS (.sl cH))
abbrev qq:K:=(.pair (.int .i64) (.pair jr (.pair jr (.pair jr (.pair O0 (.pair O0 (.pair .bool (.pair .str (.int .i64)))))))))
abbrev kd:K:=(.one (.sl qq))
def oM(xs:List ag)(ys:List ah):Bool:=decide (xs.length≤50000000)&&(decide (ys.length≤50000000)&&xs.all fun v=>decide (v.2.1.length≤50000000))
def Ew(h:Heap)(id:Nat):List AV→Option (Bool×bE)
 |[.agg [.bF a,.bF b]]=>match dN h (.row 52 dm) (.bF a),dN h (.row 118 eg) (.bF b) with
  |some xs,some ys=>if a=b then none else some (oM xs ys,.new (.agg [.bF (id+128),.bF (id+129)]) [(id+128,.own (.row 52 dm) xs),(id+129,.own (.row 118 eg) ys)])
  |_,_=>none
 |_=>none
def O2:aJ:={ ps:=[.val jG,.val qq],bs:=[],rs:=[.val jG,.val (.int .i64)] }
def Gp:aJ:={ ps:=[.val jG,.val jG],bs:=[],rs:=[.val .bool] }
def pJ:aJ:={ ps:=[.val dS,.val jr],bs:=[],rs:=[.val dm,.val .bool] }
def Aj:aJ:={ ps:=[.val jr],bs:=[],rs:=[.val .bool] }
def tk:aJ:={ ps:=[.val dS,.val bm],bs:=[],rs:=[.val jr,.val .bool] }
def xU:aJ:={ ps:=[.val dS,.val jr],bs:=[],rs:=[.val eg,.val .bool] }
def Gq:aJ:={ ps:=[.val dS,.val bm],bs:=[],rs:=[.val (.sl bm)] }
def Cq:aJ:={ ps:=[.val bm],bs:=[],rs:=[.val bm] }
def qt:aJ:={ ps:=[.val (.sl bm),.val bm],bs:=[],rs:=[.val (.int .i64)] }
def Mo:aJ:={ ps:=[.val (.sl bm),.val bm],bs:=[],rs:=[.val bm,.val .bool] }
def Ak:aJ:={ ps:=[.val dS,.val dS],bs:=[],rs:=[.val .bool] }
def Ex:aJ:={ ps:=[.val .str],bs:=[],rs:=[.val .bool] }
def Mp:aJ:={ ps:=[.val (.int .i64)],bs:=[],rs:=[.val .bool] }
def O3:aJ:={ ps:=[.val jG,.val kd],bs:=[],rs:=[.val jG,.val (.int .i64)] }
def Gs:aJ:={ ps:=[.val dS],bs:=[],rs:=[.own (.row 50 (.sl bm))] }
def Gt:aJ:={ ps:=[.val dS],bs:=[],rs:=[.val (.int .i64)] }
def Gu:aJ:={ ps:=[.val jG,.val kd],bs:=[],rs:=[.val jG,.val (.int .i64)] }
def Gv:aJ:={ ps:=[.val jG,.val kd],bs:=[],rs:=[.val jG] }
def O4:aJ:={ ps:=[.val jG,.val kd],bs:=[],rs:=[.val jG] }
def Cr:aJ:={ ps:=[.val dS],bs:=[],rs:=[.agg [.own (.row 52 dm),.own (.row 118 eg)]] }
def Gx:aJ:={ ps:=[.val kd],bs:=[],rs:=[.val (.int .i64)] }
def O5:aJ:={ ps:=[.val qq],bs:=[],rs:=[.val (.int .i64)] }
def Gy:aJ:={ ps:=[.val jG,.val (.sl qq)],bs:=[],rs:=[.val jG,.val (.int .i64)] }
def Mq:aJ:={ ps:=[.val qq],bs:=[],rs:=[.val (.int .i64)] }
def Ey:aJ:={ ps:=[.val dS,.val dm],bs:=[],rs:=[.val dS] }
def oO:aJ:={ ps:=[.val dS,.val jr,.val jr],bs:=[],rs:=[.val dS] }
def O6:aJ:={ ps:=[.val jG,.val qq],bs:=[],rs:=[.val jG,.val (.int .i64)] }
def O7:aJ:={ ps:=[.val jG,.val qq],bs:=[],rs:=[.val jG,.val (.int .i64)] }
def O8:aJ:={ ps:=[.val jG,.val qq],bs:=[],rs:=[.val jG,.val (.int .i64)] }
def xV:aJ:={ ps:=[.val jG,.val qq],bs:=[],rs:=[.val jG,.val (.int .i64)] }
def Al:aJ:={ ps:=[.val jG,.val qq],bs:=[],rs:=[.val jG,.val (.int .i64)] }
def Ez:aJ:={ ps:=[.val (.sl cH),.val (.sl cH)],bs:=[],rs:=[.val .bool] }
def Mr:aJ:={ ps:=[.val dS,.val bm],bs:=[],rs:=[.val bm,.val .bool] }
def Cs:aJ:={ ps:=[.val dS,.val jr],bs:=[],rs:=[.val (.int .i64)] }
def rR:aJ:={ ps:=[.val dS],bs:=[],rs:=[.own (.row 3 (.int .i64))] }
def Gz:aJ:={ ps:=[.val (.sl bm),.val (.sl bm)],bs:=[],rs:=[.val .bool] }
def EA:aJ:={ ps:=[.val kd],bs:=[],rs:=[.val (.int .i64)] }
def EB:aJ:={ ps:=[.val dS],bs:=[],rs:=[.own (.row 33 bm)] }
def EC:aJ:={ ps:=[.val dS],bs:=[],rs:=[.agg [.own (.row 52 dm),.own (.row 118 eg)]] }
def GA:aJ:={ ps:=[.val (.sl cH)],bs:=[],rs:=[.own (.row 54 cH)] }
def Mt:aJ:={ ps:=[.val bm,.val bm],bs:=[],rs:=[.val (.int .i64)] }
def GB:aJ:={ ps:=[.val dS],bs:=[],rs:=[.val (.int .i64)] }
def O9:aJ:={ ps:=[.val qq],bs:=[],rs:=[.val qq,.val (.int .i64)] }
def ED:aJ:={ ps:=[.ref,.val qq],bs:=[.box 155 [.own (.row 52 dm),.own (.row 118 eg),.val (.sl cH)]],rs:=[.val (.int .i64)] }
def Mu:aJ:={ ps:=[.val qq],bs:=[],rs:=[.val qq] }
def Mv:aJ:={ ps:=[.val O0],bs:=[],rs:=[.val .bool] }
def GC:aJ:={ ps:=[.val jr,.val jr],bs:=[],rs:=[.val (.int .i64)] }
def Mw:aJ:={ ps:=[.val jG,.val O0],bs:=[],rs:=[.val O0,.val (.int .i64)] }
def xW:aJ:={ ps:=[.val dS,.val eg],bs:=[],rs:=[.val dS] }
def xX:aJ:={ ps:=[.val dS,.val O0,.val bm],bs:=[],rs:=[.val dS] }
def xY:aJ:={ ps:=[.val (.sl cH),.val cH],bs:=[],rs:=[.val (.sl cH)] }
def Mx:aJ:={ ps:=[.val dS,.val bm],bs:=[],rs:=[.val bm] }
def My:aJ:={ ps:=[.val dS,.val bm],bs:=[],rs:=[.val dS] }
def GD:aJ:={ ps:=[.val dS,.val bm,.val bm],bs:=[],rs:=[.val dS] }
def pK:aJ:={ ps:=[.val (.sl bm)],bs:=[],rs:=[.own (.row 33 bm)] }
def Pb:aJ:={ ps:=[.val dS,.val bm],bs:=[],rs:=[.val bm,.val .bool] }
def Mz:aJ:={ ps:=[.val (.sl dm)],bs:=[],rs:=[.own (.row 52 dm)] }
def MA:aJ:={ ps:=[.val (.sl eg)],bs:=[],rs:=[.own (.row 118 eg)] }
def xZ:aJ:={ ps:=[.val (.sl bm)],bs:=[],rs:=[.own (.row 33 bm)] }
def EE:aJ:={ ps:=[.val dS],bs:=[],rs:=[.val (.int .i64),.val (.int .i64),.val (.int .i64),.val (.int .i64)] }
def qu:aJ:={ ps:=[.val jr],bs:=[],rs:=[.val .bool] }
def Ct:aJ:={ ps:=[.val O0],bs:=[],rs:=[.val .bool] }
def vY:aJ:={ ps:=[.val .str],bs:=[],rs:=[.val .bool] }
def GF:aJ:={ ps:=[.val (.int .i64)],bs:=[],rs:=[.val .bool] }
def GG:aJ:={ ps:=[.ref,.val dm],bs:=[.box 155 [.own (.row 52 dm),.own (.row 118 eg),.val (.sl cH)]],rs:=[.val (.int .i64)] }
def Pc:aJ:={ ps:=[.ref,.val qq],bs:=[.box 155 [.own (.row 52 dm),.own (.row 118 eg),.val (.sl cH)]],rs:=[.val (.int .i64)] }
def oP:aJ:={ ps:=[.ref,.val qq],bs:=[.box 155 [.own (.row 52 dm),.own (.row 118 eg),.val (.sl cH)]],rs:=[.val (.int .i64)] }
def Am:aJ:={ ps:=[.ref,.val qq],bs:=[.box 155 [.own (.row 52 dm),.own (.row 118 eg),.val (.sl cH)]],rs:=[.val (.int .i64)] }
def ya:aJ:={ ps:=[.ref,.val qq],bs:=[.box 155 [.own (.row 52 dm),.own (.row 118 eg),.val (.sl cH)]],rs:=[.val (.int .i64)] }
def qv:aJ:={ ps:=[.ref,.val qq],bs:=[.box 155 [.own (.row 52 dm),.own (.row 118 eg),.val (.sl cH)]],rs:=[.val (.int .i64)] }
def Pd:aJ:={ ps:=[.ref,.val qq],bs:=[.box 155 [.own (.row 52 dm),.own (.row 118 eg),.val (.sl cH)]],rs:=[.val (.int .i64)] }
def Pe:aJ:={ ps:=[.val bm],bs:=[],rs:=[.val .bool] }
def GH:aJ:={ ps:=[.val jG,.val bm],bs:=[],rs:=[.val bm] }
def Cu:aJ:={ ps:=[.val dS,.val jr,.val (.sl bm)],bs:=[],rs:=[.val dS] }
def xq:aJ:={ ps:=[.val (.sl bm),.val bm,.val bm],bs:=[],rs:=[.own (.row 33 bm)] }
def sB:aJ:={ ps:=[.val (.sl cH),.val bm],bs:=[],rs:=[.val bm,.val .bool] }
def xt:aJ:={ ps:=[.val (.sl bm),.val bm],bs:=[],rs:=[.own (.row 33 bm)] }
def GI:aJ:={ ps:=[.val (.sl bm),.val bm,.val bm],bs:=[],rs:=[.own (.row 33 bm)] }
def GJ:aJ:={ ps:=[.val (.sl bm),.val bm],bs:=[],rs:=[.val bm,.val .bool] }
def GK:aJ:={ ps:=[.val bm],bs:=[],rs:=[.val .bool] }
def po:aJ:={ ps:=[.ref,.val jr],bs:=[.box 155 [.own (.row 52 dm),.own (.row 118 eg),.val (.sl cH)]],rs:=[.val (.int .i64),.val .bool] }
def UB:aJ:={ ps:=[],bs:=[],rs:=[],x:=some (NK 52 dm) }
def UC:aJ:={ ps:=[],bs:=[],rs:=[],x:=some (Sh 52 dm) }
def xu:aJ:={ ps:=[.ref,.val jr],bs:=[.box 155 [.own (.row 52 dm),.own (.row 118 eg),.val (.sl cH)]],rs:=[.val (.int .i64)] }
def Ao:aJ:={ ps:=[.val jr],bs:=[],rs:=[.val bm,.val bm] }
def GL:aJ:={ ps:=[.val jG,.val O0],bs:=[],rs:=[.val O0,.val (.int .i64)] }
def Ap:aJ:={ ps:=[.val (.sl bm),.val bm,.val bm],bs:=[],rs:=[.own (.row 33 bm)] }
def Aq:aJ:={ ps:=[.val dS],bs:=[],rs:=[.val .bool] }
def my:aJ:={ ps:=[.ref,.val jr],bs:=[.box 155 [.own (.row 52 dm),.own (.row 118 eg),.val (.sl cH)]],rs:=[.val (.int .i64),.val .bool] }
def Ar:aJ:={ ps:=[.ref,.val bm,.val bm],bs:=[.box 155 [.own (.row 52 dm),.own (.row 118 eg),.val (.sl cH)]],rs:=[] }
def As:aJ:={ ps:=[.ref,.val bm],bs:=[.box 155 [.own (.row 52 dm),.own (.row 118 eg),.val (.sl cH)]],rs:=[.val bm] }
def lN:aJ:={ ps:=[.ref,.val bm],bs:=[.box 155 [.own (.row 52 dm),.own (.row 118 eg),.val (.sl cH)]],rs:=[.eC 0 [(0,5,0)]] }
def GM:aJ:={ ps:=[.val (.sl bm),.val bm],bs:=[],rs:=[.own (.row 33 bm)] }
def UD:aJ:={ ps:=[],bs:=[],rs:=[],x:=some (Sh 118 eg) }
def sD:aJ:={ ps:=[.val (.sl bm),.val bm,.val bm],bs:=[],rs:=[.own (.row 33 bm)] }
def nF:aJ:={ ps:=[.val bm],bs:=[],rs:=[.val bm] }
def qw:aJ:={ ps:=[.val (.sl bm)],bs:=[],rs:=[.own (.row 33 bm)] }
def GN:aJ:={ ps:=[.ref,.val qq],bs:=[.box 155 [.own (.row 52 dm),.own (.row 118 eg),.val (.sl cH)]],rs:=[.eC 0 [(0,5,3),(1,4,2)],.eC 0 [(0,5,4),(1,4,3)]] }
def Dc:aJ:={ ps:=[.val dm,.val jr],bs:=[],rs:=[.val (.int .i64)] }
def Au:aJ:={ ps:=[.val jr,.val jr],bs:=[],rs:=[.val (.int .i64)] }
def UE:aJ:={ ps:=[],bs:=[],rs:=[],x:=some (NK 118 eg) }
def GO:aJ:={ ps:=[.val dS,.val jr],bs:=[],rs:=[.val dm,.val .bool] }
def xw:aJ:={ ps:=[.val jG,.val bm],bs:=[],rs:=[.val bm] }
def uC:aJ:={ ps:=[.val (.sl bm),.val bm],bs:=[],rs:=[.val .bool] }
def lO:aJ:={ ps:=[.val (.sl bm),.val bm],bs:=[],rs:=[.val (.int .i64)] }
def nG:aJ:={ ps:=[.val (.sl (.sl bm))],bs:=[],rs:=[.own (.row 33 bm)] }
def GQ:aJ:={ ps:=[.val dS],bs:=[],rs:=[.val (.int .i64)] }
def Dd:aJ:={ ps:=[.val eg,.val jr],bs:=[],rs:=[.val (.int .i64)] }
def GR:aJ:={ ps:=[.val (.sl cH),.val cH],bs:=[],rs:=[.own (.row 54 cH)] }
def De:aJ:={ ps:=[.val (.sl bm),.val bm],bs:=[],rs:=[.val bm,.val .bool] }
def Df:aJ:={ ps:=[.val bm,.val bm],bs:=[],rs:=[.val (.int .i64)] }
def nH:aJ:={ ps:=[.val (.sl (.sl bm))],bs:=[],rs:=[.own (.row 33 bm)] }
def uD:aJ:={ ps:=[.val (.sl (.int .i64))],bs:=[],rs:=[.val (.int .i64)] }
def Av:aJ:={ ps:=[.val (.int .i64),.val (.int .i64)],bs:=[],rs:=[.val (.int .i64)] }
def GS:aJ:={ ps:=[.val dm],bs:=[],rs:=[.val jr] }
def uE:aJ:={ ps:=[.val dS,.val bm],bs:=[],rs:=[.val jr,.val .bool] }
def GU:aJ:={ ps:=[.val (.sl cH),.val bm],bs:=[],rs:=[.val bm,.val .bool] }
def GW:aJ:={ ps:=[.val dS],bs:=[],rs:=[.val (.int .i64),.val (.int .i64),.val (.int .i64),.val (.int .i64)] }
def Dg:aJ:={ ps:=[.val cH,.val bm],bs:=[],rs:=[.val (.int .i64)] }
def UF:aJ:={ ps:=[],bs:=[],rs:=[],x:=some (NK 54 cH) }
def Aw:aJ:={ ps:=[.val (.sl bm),.val bm,.val (.int .i64)],bs:=[],rs:=[.val bm,.val .bool] }
def UG:aJ:={ ps:=[],bs:=[],rs:=[],x:=some (NL 33 bm) }
def Ax:aJ:={ ps:=[.val (.int .i64)],bs:=[],rs:=[.val .bool] }
def GX:aJ:={ ps:=[.val cH,.ref],bs:=[.box 33 [.val (.int .i64),.val (.int .i64),.val (.int .i64)]],rs:=[.val .bool] }
def GY:aJ:={ ps:=[.val dm],bs:=[],rs:=[.val .bool] }
def xx:aJ:={ ps:=[.val dS],bs:=[],rs:=[.own (.row 50 (.sl bm))] }
def xy:aJ:={ ps:=[.val dS],bs:=[],rs:=[.val (.int .i64)] }
def uF:aJ:={ ps:=[.val dS],bs:=[],rs:=[.own (.row 33 bm)] }
def UH:aJ:={ ps:=[.val dS],bs:=[],rs:=[.own (.row 28 (.sl jr))] }
def Dh:aJ:={ ps:=[.val dS,.val bm],bs:=[],rs:=[.val bm,.val .bool] }
def gQ:aJ:={ ps:=[.val dS],bs:=[],rs:=[.own (.row 3 (.int .i64))] }
def xz:aJ:={ ps:=[.val dS,.val bm],bs:=[],rs:=[.val bm,.val .bool] }
def GZ:aJ:={ ps:=[.own,.val (.int .i64),.val (.int .i64)],bs:=[.own (.row 3 (.int .i64))],rs:=[] }
def qx:aJ:={ ps:=[.own,.val (.int .i64)],bs:=[.own (.row 3 (.int .i64))],rs:=[.val (.int .i64)] }
def G1:aJ:={ ps:=[.val (.sl bm),.val bm],bs:=[],rs:=[.val bm,.val .bool] }
def iY:aJ:={ ps:=[.val (.sl dm),.val jr,.Fp 207 0],bs:=[],rs:=[.val (.int .i64),.val .bool] }
def iZ:aJ:={ ps:=[.val (.sl eg),.val jr,.Fp 214 0],bs:=[],rs:=[.val (.int .i64),.val .bool] }
def ke:aJ:={ ps:=[.val (.sl bm),.Fp 195 0],bs:=[],rs:=[.val bm] }
def kf:aJ:={ ps:=[.val (.sl dm),.Fp 109 0,.val jr],bs:=[],rs:=[.val dm,.val .bool] }
def jc:aJ:={ ps:=[.val (.sl cH),.val bm,.Fp 232 0],bs:=[],rs:=[.val (.int .i64),.val .bool] }
def je:aJ:={ ps:=[.val (.sl cH),.Fp 245 1],bs:=[.box 33 [.val bm]],rs:=[.val (.int .i64)] }
def kg:aJ:={ ps:=[.val (.sl dm),.Fp 239 0],bs:=[],rs:=[.val (.int .i64)] }
def G2:aJ:={ ps:=[],bs:=[],rs:=[],x:=some Ew }
def Pf:aJ:={ ps:=[],bs:=[],rs:=[] }
abbrev k98:K:=(.pair kd jr)
abbrev RY:K:=(.pair jG (.pair (.int .i64) (.sl kd)))
abbrev cS:=(StateT×(Int×((List (List ba))×Unit)))
abbrev Q0:=((Bool×Unit)×Unit)
abbrev Q1:=((StateT×(Int×Unit))×Unit)
abbrev Q2:=((Int×Unit)×Unit)
abbrev Q3:=(((List ba)×Unit)×Unit)
abbrev Q4:=((StateT×Unit)×Unit)
abbrev Q5:=((aj×Unit)×Unit)
abbrev Q6:=(((List ab)×Unit)×Unit)
abbrev Q7:=((ag×(Bool×Unit))×Unit)
abbrev Q8:=(List ba)
abbrev Q9:=((Int×Unit)×(cS×Unit))
abbrev Q10:=((ah×(Bool×Unit))×Unit)
abbrev EF:=((ab×Unit)×Unit)
abbrev KD:=((ab×(Bool×Unit))×Unit)
abbrev RZ:=((ID×(Bool×Unit))×Unit)
abbrev Jm:=((Int×(Bool×Unit))×(aQ×Unit))
abbrev XK:=((StateT×(ba×Unit))×Unit)
abbrev XL:=((StateT×((List ba)×Unit))×Unit)
abbrev Q17:=(((List (List ba))×Unit)×Unit)
abbrev SX:=(((List aw)×Unit)×Unit)
abbrev Pg:=((Int×Unit)×(aQ×Unit))
abbrev SY:=((aj×(ab×Unit))×Unit)
abbrev SZ:=(((List ab)×(ab×Unit))×Unit)
abbrev UI:=((ba×Unit)×(aQ×Unit))
abbrev Q23:=((StateT×Unit)×((List (List ba))×Unit))
abbrev Q24:=(((List ba)×(Int×Unit))×Unit)
abbrev Q25:=(((List (List ab))×Unit)×Unit)
abbrev Q26:=((((List ag)×((List ah)×Unit))×Unit)×Unit)
abbrev Q27:=((pn×Unit)×Unit)
abbrev Q28:=((Int×(Int×Unit))×(cS×Unit))
abbrev Q29:=((StateT×((List (List ba))×Unit))×Unit)
abbrev Q30:=((aj×(ID×Unit))×Unit)
abbrev YL:=(((Option ((Fin 1)×Nat))×Unit)×(aQ×Unit))
abbrev Q32:=(Unit×(cS×Unit))
abbrev Q33:=((ab×(ab×Unit))×Unit)
abbrev Q34:=(((List ab)×(ab×(ab×Unit)))×Unit)
abbrev Q35:=((Int×Unit)×((List Int)×Unit))
abbrev Q36:=((StateT×(Int×Unit))×(cS×Unit))
abbrev Q37:=(((List Bool)×Unit)×((List (List ba))×Unit))
abbrev Q38:=((Bool×(Int×Unit))×(((StateT×Unit)×((ba×Unit)×(aQ×(((List ag)×((List ah)×Unit))×Unit))))×Unit))
abbrev Q39:=((Int×Unit)×((aQ×((ab×Unit)×((ab×Unit)×((ab×Unit)×Unit))))×Unit))
def Wb(_:Heap)(id:Nat):List AV→Option (Bool×bE)
 |[]=>some (true,.new (.ref (id+128) 0 0 0) [(id+128,.box 100 (enc RY (kG RY)))])
 |_=>none
def ahZ(h:Heap)(id:Nat):List AV→Option (Bool×bE)
 |[.ref i 0 0 0]=>match CG h i 100 with
  |some cs=>match dB RY cs with
   |some x=>some (true,.new (.ref (id+128) 0 0 0) [(id+128,.box 100 (enc RY x))])
   |none=>none
  |none=>none
 |_=>none
def uG:aJ:={ ps:=[.val (.sl kd),.val (.int .i64),.val (.int .i64)],bs:=[],rs:=[.val .bool] }
def Ay:aJ:={ ps:=[.val jG,.val (.sl kd)],bs:=[],rs:=[.val jG] }
def pq:aJ:={ ps:=[.val jG,.val (.sl kd)],bs:=[],rs:=[.val jG] }
def G3:aJ:={ ps:=[],bs:=[],rs:=[.val .bool] }
def Di:aJ:={ ps:=[.ref,.val kd],bs:=[.box 100 [.val jG,.val (.int .i64),.val (.sl kd)]],rs:=[.val (.int .i64),.val (.int .i64)] }
def G4:aJ:={ ps:=[.val (.int .i64)],bs:=[],rs:=[.val kd] }
def Az:aJ:={ ps:=[.ref,.val (.int .i64)],bs:=[.box 100 [.val jG,.val (.int .i64),.val (.sl kd)]],rs:=[.val (.int .i64)] }
def uH:aJ:={ ps:=[.ref],bs:=[.box 100 [.val jG,.val (.int .i64),.val (.sl kd)]],rs:=[.val (.int .i64)] }
def AA:aJ:={ ps:=[.ref],bs:=[.box 100 [.val jG,.val (.int .i64),.val (.sl kd)]],rs:=[.val (.int .i64)] }
def Dk:aJ:={ ps:=[.val kd],bs:=[],rs:=[.val kd] }
def AB:aJ:={ ps:=[.ref,.val (.int .i64)],bs:=[.box 100 [.val jG,.val (.int .i64),.val (.sl kd)]],rs:=[.val jG,.val (.int .i64)] }
def sE:aJ:={ ps:=[.ref,.val (.int .i64)],bs:=[.box 100 [.val jG,.val (.int .i64),.val (.sl kd)]],rs:=[.val (.sl kd),.val (.int .i64)] }
def sF:aJ:={ ps:=[.val (.sl kd),.val (.sl kd)],bs:=[],rs:=[.val .bool] }
def Dl:aJ:={ ps:=[.ref],bs:=[.box 100 [.val jG,.val (.int .i64),.val (.sl kd)]],rs:=[.val jG] }
def G5:aJ:={ ps:=[.val jG,.val kd],bs:=[],rs:=[] }
def Dm:aJ:={ ps:=[.val (.sl qq)],bs:=[],rs:=[.val (.sl qq)] }
def xC:aJ:={ ps:=[.val kd,.val kd],bs:=[],rs:=[.val .bool] }
def kh:aJ:={ ps:=[.val jG,.val (.sl kd),.Fp 61 0],bs:=[],rs:=[.val jG] }
def UJ:aJ:={ ps:=[],bs:=[],rs:=[],x:=some Wb }
def MB:aJ:={ ps:=[],bs:=[],rs:=[] }
def MC:aJ:={ ps:=[],bs:=[],rs:=[] }
def sgs:List (Nat×aJ):=[(45,O2),(22,Gp),(79,pJ),(87,Aj),(124,tk),(92,xU),(192,Gq),(121,Cq),(144,qt),(148,Mo),(55,Ak),(91,Ex),(90,Mp),(63,O3),(164,Gs),(165,Gt),(49,Gu),(102,Gv),(64,O4),(21,Cr),(69,Gx),(104,O5),(103,Gy),(46,Mq),(80,Ey),(81,oO),(82,O6),(83,O7),(84,O8),(85,xV),(86,Al),(65,Ez),(216,Mr),(217,Cs),(193,rR),(98,Gz),(66,EA),(191,EB),(96,EC),(97,GA),(71,Mt),(107,GB),(132,O9),(131,ED),(88,Mu),(89,Mv),(105,GC),(114,Mw),(115,xW),(116,xX),(117,xY),(118,Mx),(119,My),(120,GD),(122,pK),(234,Pb),(127,Mz),(128,MA),(110,xZ),(136,EE),(159,qu),(160,Ct),(161,vY),(162,GF),(152,GG),(153,Pc),(154,oP),(155,Am),(156,ya),(157,qv),(158,Pd),(123,Pe),(143,GH),(145,Cu),(146,xq),(147,sB),(126,xt),(149,GI),(248,GJ),(190,GK),(175,po),(176,UB),(177,UC),(178,xu),(179,Ao),(180,GL),(181,Ap),(172,Aq),(182,my),(183,Ar),(184,As),(185,lN),(141,GM),(186,UD),(187,sD),(188,nF),(169,qw),(189,GN),(207,Dc),(208,Au),(211,UE),(74,GO),(212,xw),(166,uC),(168,lO),(170,nG),(204,GQ),(214,Dd),(215,GR),(140,De),(195,Df),(196,nH),(218,uD),(219,Av),(109,GS),(139,uE),(230,GU),(226,GW),(232,Dg),(233,UF),(167,Aw),(220,UG),(235,Ax),(245,GX),(239,GY),(240,xx),(241,xy),(249,uF),(251,UH),(255,Dh),(256,gQ),(258,xz),(259,GZ),(260,qx),(261,G1),(208206,iY),(215213,iZ),(196194,ke),(110108,kf),(233231,jc),(246244,je),(240238,kg),(500096,G2),(900025,Pf),(6,uG),(18,Ay),(20,pq),(23,G3),(25,Di),(26,G4),(27,Az),(28,uH),(29,AA),(30,Dk),(31,AB),(32,sE),(33,sF),(34,Dl),(61,G5),(67,Dm),(68,xC),(62060,kh),(24,UJ),(2514003,MB),(3537003,MC)]
def Sg(f:FuncId):Option aJ:=(sgs.find? (fun p=>p.1==f)).map (fun p=>p.2)
def eqs:List (Nat×K):=[(31,jr),(33,bm),(35,O0),(37,qq),(118,eg),(54,cH)]
def Eqs(t:TypeId):Option K:=(eqs.find? (fun p=>p.1==t)).map (fun p=>p.2)
def AD:Shape:=⟨[(6,.int .i64)],[(.slot 2,20000,.box 41 [.val dS]),(.slot 3,20001,.box 31 [.val jr]),(.slot 4,20002,.box 52 [.val (.int .i64),.val (.int .i64),.own (.row 33 bm),.val .str,.val (.int .i64)])],[],[]⟩
def AE:Shape:=⟨[(6,.int .i64)],[(.slot 2,20000,.box 41 [.val dS]),(.slot 3,20001,.box 33 [.val bm]),(.slot 4,20002,.box 31 [.val jr])],[],[]⟩
def AF:Shape:=⟨[(6,.int .i64)],[(.slot 2,20000,.box 41 [.val dS]),(.slot 3,20001,.box 31 [.val jr]),(.slot 4,20002,.box 118 [.val eg])],[],[]⟩
def AG:Shape:=⟨[],[(.slot 2,20000,.box 41 [.val dS]),(.slot 3,20001,.box 33 [.val bm]),(.slot 6,20002,.box 33 [.val bm])],[(5,31000,(.row 33 bm))],[]⟩
def AH:Shape:=⟨[(0,.sl bm),(5,.int .i64)],[(.slot 3,20000,.box 33 [.val bm])],[],[]⟩
def AI:Shape:=⟨[(5,.int .i64)],[(.slot 2,20000,.box 41 [.val dS]),(.slot 3,20001,.box 41 [.val dS])],[],[]⟩
def AJ:Shape:=⟨[(9,.int .i64)],[(.slot 2,20000,.box 41 [.val dS]),(.slot 3,20001,.box 41 [.val dS])],[],[]⟩
def AK:Shape:=⟨[(0,.str),(3,.int .i64)],[],[],[]⟩
def vZ:Shape:=⟨[(6,.int .i64)],[(.slot 1,20000,.box 41 [.val dS])],[(3,31000,(.row 50 (.sl bm))),(4,31001,(.row 33 bm)),(5,31002,(.row 33 bm))],[]⟩
def v5:Shape:=⟨[(4,.int .i64),(5,.int .i64)],[],[(3,31000,(.row 3 (.int .i64)))],[]⟩
def AL:Shape:=⟨[(7,.int .i64)],[(.slot 2,20000,.box 44 [.val jG]),(.slot 3,20001,.box 27 [.val kd]),(.slot 4,20002,.box 44 [.own (.row 52 dm),.own (.row 118 eg),.own (.row 54 cH)])],[],[]⟩
def AM:Shape:=⟨[(4,.int .i64)],[(.slot 1,20000,.box 41 [.val dS]),(.slot 2,20001,.box 41 [.own (.row 52 dm),.own (.row 118 eg)]),(.slot 3,20002,.box 41 [.own (.row 52 dm),.own (.row 118 eg)])],[],[]⟩
def AO:Shape:=⟨[(3,.int .i64)],[(.slot 1,20000,.box 27 [.val kd])],[],[]⟩
def AP:Shape:=⟨[(18,.sl qq),(19,.int .i64),(20,.int .i64)],[(.slot 4,20000,.box 44 [.own (.row 52 dm),.own (.row 118 eg),.own (.row 54 cH)]),(.slot 6,20001,.box 155 [.own (.row 52 dm),.own (.row 118 eg),.val (.sl cH)])],[],[]⟩
def tl:Shape:=⟨[(6,.bool),(7,.int .i64)],[(.slot 2,20000,.box 41 [.val dS]),(.slot 3,20001,.box 52 [.val dm]),(.slot 4,20002,.box 41 [.own (.row 52 dm),.own (.row 118 eg)]),(.slot 5,20003,.box 41 [.own (.row 52 dm),.val (.sl eg)])],[],[]⟩
def v7:Shape:=⟨[(8,.int .i64)],[(.slot 3,20000,.box 41 [.val dS]),(.slot 4,20001,.box 31 [.val jr]),(.slot 5,20002,.box 31 [.val jr]),(.slot 6,20003,.box 41 [.own (.row 52 dm),.own (.row 118 eg)]),(.slot 7,20004,.box 41 [.own (.row 52 dm),.own (.row 118 eg)])],[],[]⟩
def wa:Shape:=⟨[(9,.int .i64)],[(.slot 3,20000,.box 41 [.val dS]),(.slot 5,20001,.box 31 [.val jr]),(.slot 6,20002,.box 41 [.own (.row 52 dm),.own (.row 118 eg)]),(.slot 7,20003,.box 41 [.own (.row 52 dm),.own (.row 118 eg)])],[],[]⟩
def lP:Shape:=⟨[(12,.sl cH),(13,.int .i64)],[(.slot 4,20000,.box 44 [.own (.row 52 dm),.own (.row 118 eg),.own (.row 54 cH)]),(.slot 8,20001,.box 33 [.val bm]),(.slot 9,20002,.box 33 [.val bm]),(.slot 10,20003,.box 33 [.val bm]),(.slot 11,20004,.box 41 [.val dS])],[],[]⟩
def qy:Shape:=⟨[(7,.bool),(8,.int .i64)],[(.slot 2,20000,.box 44 [.val jG]),(.slot 3,20001,.box 37 [.val qq]),(.slot 4,20002,.box 44 [.own (.row 52 dm),.own (.row 118 eg),.own (.row 54 cH)]),(.slot 6,20003,.box 41 [.own (.row 52 dm),.own (.row 118 eg)])],[],[]⟩
def qz:Shape:=⟨[(7,.bool),(9,.int .i64)],[(.slot 2,20000,.box 44 [.val jG]),(.slot 3,20001,.box 37 [.val qq]),(.slot 4,20002,.box 44 [.own (.row 52 dm),.own (.row 118 eg),.own (.row 54 cH)]),(.slot 6,20003,.box 41 [.own (.row 52 dm),.own (.row 118 eg)])],[],[]⟩
def AQ:Shape:=⟨[(0,.sl cH),(1,.sl cH),(5,.int .i64)],[],[],[]⟩
def AR:Shape:=⟨[(5,.int .i64)],[(.slot 2,20000,.box 41 [.val dS]),(.slot 3,20001,.box 31 [.val jr])],[],[]⟩
def AS:Shape:=⟨[(4,.int .i64)],[(.slot 1,20000,.box 41 [.val dS])],[(3,31000,(.row 3 (.int .i64)))],[]⟩
def wb:Shape:=⟨[(5,.int .i64)],[(.slot 1,20000,.box 41 [.val dS])],[(3,31000,(.row 3 (.int .i64)))],[]⟩
def qA:Shape:=⟨[(5,.int .i64),(6,.int .i64)],[(.slot 1,20000,.box 41 [.val dS])],[(3,31000,(.row 3 (.int .i64)))],[]⟩
def AT:Shape:=⟨[(0,.sl bm),(1,.sl bm),(5,.int .i64)],[],[],[]⟩
def AU:Shape:=⟨[(17,.sl qq),(18,.int .i64),(19,.int .i64)],[],[],[]⟩
def AW:Shape:=⟨[(4,.int .i64)],[(.slot 1,20000,.box 41 [.val dS])],[(3,31000,(.row 33 bm))],[]⟩
def AX:Shape:=⟨[(14,.int .i64),(15,.int .i64)],[(.slot 2,20000,.box 41 [.own (.row 52 dm),.own (.row 118 eg)]),(.slot 3,20001,.box 41 [.own (.row 52 dm),.own (.row 118 eg)])],[],[]⟩
def tn:Shape:=⟨[(6,.bool),(7,.int .i64)],[(.slot 2,20000,.box 41 [.val dS]),(.slot 3,20001,.box 118 [.val eg]),(.slot 4,20002,.box 41 [.own (.row 52 dm),.own (.row 118 eg)]),(.slot 5,20003,.box 41 [.val (.sl dm),.own (.row 118 eg)])],[],[]⟩
def kC:Shape:=⟨[(0,.sl cH),(8,.bool),(9,.int .i64)],[(.slot 3,20000,.box 54 [.val cH])],[(7,31000,(.row 54 cH))],[]⟩
def wc:Shape:=⟨[(0,.sl bm),(3,.int .i64),(4,.int .i64)],[],[],[]⟩
def AY:Shape:=⟨[(0,.sl bm),(3,.int .i64),(6,.int .i64)],[],[(5,31000,(.row 33 bm))],[]⟩
def tp:Shape:=⟨[(6,.int .i64),(7,.int .i64)],[(.slot 1,20000,.box 41 [.val dS])],[],[]⟩
def we:Shape:=⟨[(0,.str)],[],[(6,31000,.nc)],[]⟩
def lQ:Shape:=⟨[(48,.int .i64),(49,.int .i64)],[(.slot 0,1000,.box 155 [.own (.row 52 dm),.own (.row 118 eg),.val (.sl cH)]),(.slot 5,20001,.box 44 [.val jG]),(.slot 7,20002,.box 33 [.val bm])],[(9,31000,(.row 33 bm)),(47,31001,(.row 35 O0))],[]⟩
def EG:Shape:=⟨[(5,.int .i64),(32,.int .i64),(33,.int .i64)],[(.slot 0,1000,.box 155 [.own (.row 52 dm),.own (.row 118 eg),.val (.sl cH)]),(.slot 7,20001,.box 33 [.val bm]),(.slot 8,20002,.box 33 [.val bm])],[(31,31000,(.row 33 bm))],[]⟩
def wg:Shape:=⟨[(5,.int .i64),(47,.int .i64),(48,.int .i64)],[(.slot 0,1000,.box 155 [.own (.row 52 dm),.own (.row 118 eg),.val (.sl cH)])],[(46,31000,(.row 33 bm))],[]⟩
def mV:Shape:=⟨[(113,.int .i64)],[(.slot 0,1000,.box 155 [.own (.row 52 dm),.own (.row 118 eg),.val (.sl cH)]),(.slot 8,20001,.box 33 [.val bm]),(.slot 9,20002,.box 33 [.val bm]),(.slot 10,20003,.box 33 [.val bm])],[],[]⟩
def AZ:Shape:=⟨[(5,.int .i64)],[(.slot 2,20000,.box 44 [.val jG]),(.slot 3,20001,.box 33 [.val bm]),(.slot 4,20002,.box 33 [.val bm])],[],[]⟩
def wh:Shape:=⟨[(2,.sl bm),(8,.int .i64)],[(.slot 4,20000,.box 31 [.val jr]),(.slot 6,20001,.box 41 [.own (.row 52 dm),.own (.row 118 eg)]),(.slot 7,20002,.box 41 [.own (.row 52 dm),.own (.row 118 eg)])],[],[]⟩
def rp:Shape:=⟨[(0,.sl bm),(7,.int .i64),(9,.int .i64)],[(.slot 5,20000,.box 33 [.val bm])],[(8,31000,(.row 33 bm))],[]⟩
def uI:Shape:=⟨[(0,.sl cH),(6,.int .i64)],[(.slot 3,20000,.box 33 [.val bm]),(.slot 4,20001,.box 33 [.val bm])],[],[]⟩
def rq:Shape:=⟨[(0,.sl bm),(6,.int .i64)],[(.slot 3,20000,.box 33 [.val bm])],[(5,31000,(.row 33 bm))],[]⟩
def yC:Shape:=⟨[(7,.int .i64)],[(.slot 0,1000,.box 155 [.own (.row 52 dm),.own (.row 118 eg),.val (.sl cH)]),(.slot 3,20001,.box 33 [.val bm]),(.slot 4,20002,.box 33 [.val bm]),(.slot 5,20003,.box 33 [.val bm])],[],[]⟩
def uJ:Shape:=⟨[(12,.int .i64),(13,.int .i64)],[(.slot 0,1000,.box 155 [.own (.row 52 dm),.own (.row 118 eg),.val (.sl cH)]),(.slot 3,20001,.box 33 [.val bm])],[],[]⟩
def uK:Shape:=⟨[(12,.int .i64),(13,.int .i64)],[(.slot 2,20000,.box 44 [.val jG]),(.slot 3,20001,.box 33 [.val bm]),(.slot 4,20002,.box 33 [.val bm])],[],[]⟩
def uL:Shape:=⟨[(0,.sl bm),(7,.int .i64),(8,.int .i64)],[(.slot 3,20000,.box 33 [.val bm])],[],[]⟩
def uM:Shape:=⟨[(0,.sl (.sl bm)),(3,.int .i64),(9,.sl (.sl bm)),(10,.int .i64),(11,.int .i64)],[],[],[]⟩
def uN:Shape:=⟨[(25,.sl (.sl bm)),(26,.int .i64),(27,.int .i64)],[],[(6,31000,(.row 33 bm))],[]⟩
def yD:Shape:=⟨[(3,.int .i64),(6,.sl (.int .i64)),(7,.int .i64),(8,.int .i64)],[],[],[]⟩
def uO:Shape:=⟨[(9,.sl dm),(10,.int .i64),(11,.int .i64)],[(.slot 3,20000,.box 33 [.val bm]),(.slot 4,20001,.box 31 [.val jr])],[],[]⟩
def uP:Shape:=⟨[(8,.sl eg),(9,.int .i64),(10,.int .i64)],[],[(3,31000,(.row 33 bm))],[]⟩
def rr:Shape:=⟨[(18,.sl dm),(19,.int .i64),(20,.int .i64)],[],[(3,31000,(.row 3 (.int .i64))),(4,31001,(.map bm (.int .i64)))],[]⟩
def uQ:Shape:=⟨[(5,.int .i64),(18,.sl dm),(19,.int .i64),(20,.int .i64),(30,.sl bm),(31,.int .i64),(32,.int .i64)],[],[(3,31000,(.row 3 (.int .i64))),(4,31001,(.map bm (.int .i64)))],[]⟩
def oQ:Shape:=⟨[(4,.mp bm (.int .i64))],[],[(3,31000,(.row 3 (.int .i64))),(42,31001,(.iter bm (.int .i64)))],[]⟩
def uR:Shape:=⟨[(61,.int .i64),(62,.int .i64)],[],[(3,31000,(.row 3 (.int .i64))),(13,31001,(.row 3 (.int .i64)))],[]⟩
def uS:Shape:=⟨[(11,.sl dm),(12,.int .i64),(13,.int .i64)],[(.slot 3,20000,.box 33 [.val bm]),(.slot 4,20001,.box 33 [.val bm])],[],[]⟩
def ru:Shape:=⟨[(1,.int .i64)],[],[(0,1000,(.row 3 (.int .i64)))],[]⟩
def ia:Shape:=⟨[(0,.sl dm),(8,.int .i64),(9,.int .i64),(10,.int .i64)],[(.slot 4,20000,.box 31 [.val jr])],[],[(2,207,[])]⟩
def ib:Shape:=⟨[(0,.sl eg),(8,.int .i64),(9,.int .i64),(10,.int .i64)],[(.slot 4,20000,.box 31 [.val jr])],[],[(2,214,[])]⟩
def jH:Shape:=⟨[(0,.sl bm),(6,.int .i64)],[(.slot 4,20000,.box 33 [.val bm]),(.slot 5,20001,.box 33 [.val bm])],[],[(1,195,[])]⟩
def lR:Shape:=⟨[(11,.sl dm),(12,.int .i64),(13,.int .i64)],[(.slot 5,20000,.box 31 [.val jr]),(.slot 6,20001,.box 52 [.val (.int .i64),.val (.int .i64),.own (.row 33 bm),.val .str,.val (.int .i64)])],[],[(1,109,[])]⟩
def ic:Shape:=⟨[(0,.sl cH),(8,.int .i64),(9,.int .i64),(10,.int .i64)],[(.slot 4,20000,.box 33 [.val bm])],[],[(2,232,[])]⟩
def jI:Shape:=⟨[(0,.sl cH),(7,.int .i64),(8,.int .i64)],[(.cap 1 0,1000,.box 33 [.val bm])],[],[(1,245,[1000])]⟩
def jJ:Shape:=⟨[(5,.int .i64),(8,.sl dm),(9,.int .i64),(10,.int .i64)],[],[],[(1,239,[])]⟩
def rv:Shape:=⟨[(0,.sl kd),(1,.int .i64),(2,.int .i64),(10,.int .i64)],[(.slot 8,20000,.box 100 [.val jG,.val (.int .i64),.val (.sl kd)])],[(9,31000,(.row 27 kd))],[]⟩
def uT:Shape:=⟨[(1,.sl kd),(5,.int .i64)],[(.slot 2,20000,.box 44 [.val jG]),(.slot 4,20001,.box 44 [.own (.row 52 dm),.own (.row 118 eg),.own (.row 54 cH)])],[],[]⟩
def ry:Shape:=⟨[(31,.sl kd),(32,.int .i64),(33,.int .i64)],[(.slot 0,1000,.box 100 [.val jG,.val (.int .i64),.val (.sl kd)])],[(6,31000,(.row 27 kd))],[]⟩
def uU:Shape:=⟨[(0,.sl kd),(1,.sl kd),(5,.int .i64)],[],[],[]⟩
def uV:Shape:=⟨[(5,.int .i64)],[(.slot 2,20000,.box 27 [.val kd]),(.slot 3,20001,.box 27 [.val kd])],[],[]⟩
def lS:Shape:=⟨[(13,.sl kd),(14,.int .i64),(15,.int .i64)],[(.slot 6,20000,.box 44 [.own (.row 52 dm),.own (.row 118 eg),.own (.row 54 cH)]),(.slot 7,20001,.box 44 [.val jG])],[],[(2,61,[])]⟩
def Jn:Shape:=⟨[],[],[(9,0,(.row 27 kd))],[]⟩
def ans:List (Nat×List (Nat×Shape)):=[(79,[(2,AD)]),(124,[(2,AE)]),(92,[(2,AF)]),(192,[(6,AG)]),(144,[(2,AH)]),(55,[(4,AI),(12,AJ)]),(91,[(2,AK)]),(164,[(5,vZ)]),(165,[(4,v5)]),(49,[(5,AL)]),(21,[(3,AM)]),(69,[(4,AO)]),(103,[(3,AP)]),(80,[(4,tl)]),(81,[(3,v7),(8,wa)]),(85,[(18,lP)]),(86,[(4,qy),(12,qz)]),(65,[(4,AQ)]),(217,[(2,AR)]),(193,[(3,AS),(7,wb),(10,qA)]),(98,[(4,AT)]),(66,[(4,AU)]),(191,[(3,AW)]),(96,[(3,AX)]),(115,[(4,tn)]),(117,[(7,kC)]),(122,[(3,wc),(9,AY)]),(136,[(3,tp)]),(161,[(2,we)]),(154,[(8,lQ)]),(155,[(6,EG),(11,wg)]),(157,[(19,mV)]),(143,[(2,AZ)]),(145,[(3,wh)]),(146,[(6,rp)]),(147,[(2,uI)]),(126,[(3,rq)]),(184,[(3,yC)]),(185,[(2,uJ)]),(212,[(2,uK)]),(168,[(2,uL)]),(196,[(3,uM),(11,uN)]),(218,[(3,yD)]),(139,[(2,uO)]),(249,[(3,uP)]),(256,[(4,rr),(8,uQ),(14,oQ),(21,uR)]),(258,[(2,uS)]),(260,[(1,ru)]),(208206,[(3,ia)]),(215213,[(3,ib)]),(196194,[(5,jH)]),(110108,[(2,lR)]),(233231,[(3,ic)]),(246244,[(2,jI)]),(240238,[(3,jJ)]),(6,[(7,rv),(500017,Jn)]),(20,[(2,uT)]),(32,[(5,ry)]),(33,[(4,uU)]),(68,[(4,uV)]),(62060,[(3,lS)])]
def An(f:FuncId)(key:Nat):Option Shape:=(ans.find? (fun p=>p.1==f)).bind fun p=>(p.2.find? (fun q=>q.1==key)).map (fun q=>q.2)
abbrev JT(g:aJ):=(sh:Shape)→List Item→sh.T→Option g.B
noncomputable def bS(f:FuncId)(g:aJ)(fn:Func)(F:FT)(J:JT g)(x:g.A):Option g.B:=az Tryz.prog Eqs Sg F fn.ntmps (An f) J (qc Tryz.prog g fn) fuel [.code (fn.body.getD .skip)] (entry g x)
noncomputable def fH(f j:Nat)(g:aJ)(fn:Func)(sh:Shape)(F:FT)(J:JT g)(x:sh.T):Option g.B:=az Tryz.prog Eqs Sg F fn.ntmps (An f) J (qc Tryz.prog g fn) fuel (round (aN Tryz.prog (f%1000) j)) (an sh x)
end Go.Vs
namespace Go.Vs
open Go.Proofs
variable {G:(f:FuncId)→(g:aJ)→Option (g.A→Option g.B)}
noncomputable abbrev FX(G:(f:FuncId)→(g:aJ)→Option (g.A→Option g.B)):FT:=Fix Tryz.prog Eqs Sg An G
noncomputable abbrev LX(G:(f:FuncId)→(g:aJ)→Option (g.A→Option g.B))(f:FuncId)(g:aJ)(fn:Func):JT g:=Lp Tryz.prog Eqs Sg An G f g fn
abbrev HG(G:(f:FuncId)→(g:aJ)→Option (g.A→Option g.B)):Prop:=∀f g,(f==240 || f==241)=false→G f g=none
theorem au{f:FuncId}{g:aJ}{fn:Func}{x:g.A}{y:g.B}(hG:G f g=none)(hb:body Tryz.prog (f%1000)=some (fn,fn.body.getD .skip))(hc:(decide (g.ps.length≤fn.ntmps)&&decide (g.bs.length≤8))=true)
  (h:bS f g fn (FX G) (LX G f g fn) x=some y):FX G f g x=some y:=KC hG hb hc h
theorem ar{f j:Nat}{g:aJ}{fn:Func}{sh:Shape}{x:sh.T}{y:g.B}(hs:(match aN Tryz.prog (f%1000) j with | .inLoop _::_=>true|_=>false)=true)
  (h:fH f j g fn sh (FX G) (LX G f g fn) x=some y):LX G f g fn sh (aN Tryz.prog (f%1000) j) x=some y:=by
 unfold fH at h
 generalize aN Tryz.prog (f%1000) j=s at hs h ⊢
 split at hs
 ·exact OZ h
 ·cases hs
abbrev aaa:=(Int×Unit)
abbrev aab:=(((List ag)×((List ah)×Unit))×(((List ag)×((List ah)×Unit))×Unit))
abbrev aae:=(ab×Unit)
abbrev aaf:=(Int×aaa)
abbrev aag:=(ID×Unit)
abbrev aaW:=(aj×Unit)
abbrev aaX:=((List ab)×Unit)
abbrev aaZ:=(aae×Unit)
abbrev aa0:=((List Int)×Unit)
abbrev aa4:=(Unit×Unit)
abbrev aa5:=(aQ×Unit)
abbrev abc:=((List ba)×Unit)
abbrev abd:=(StateT×Unit)
abbrev abk:=(aaW×Unit)
abbrev abp:=(aag×Unit)
abbrev abr:=(aag×((Int×(Int×((List ab)×(ByteArray×aaa))))×Unit))
abbrev abu:=((List ab)×aaa)
abbrev abv:=((List ab)×aaf)
abbrev abw:=((List ag)×aaf)
end Go.Vs
