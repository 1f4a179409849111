/- The value semantics is sound for whole functions; the signatures of the program. -/
import Derived.Test.YtpkfpbpbkabkdaaGreatEngineC
import Derived.Scope
import Derived.Test.YtpkfpbpbkabkdaaGreatProg
import Derived.KernelRfl
set_option linter.unusedSimpArgs false
set_option linter.unusedVariables false
namespace Go.Vs
variable {P:Program} {Eqs:TypeId→Option K} {Sg:FuncId→Option aM} {F:(f:FuncId)→(g:aM)→g.A→Option g.B} {R:Type}
variable {Z Z' Z0:Nat→Prop} {ψ ψ' ψ0:Nat→Value} {h h':Hp} {w w' w0:World} {B0:Nat} {O N:Nat→Prop}
def fq(st:St):(l:List (Nat×Nat×OK))→Jg (l.map (·.2.2))→List xZ
 |[],_=>[]
 |(s,id,ok)::r,x=>(id,(oW (look st.tmps s)).head?,.own ok x.1)::fq st r x.2
theorem u9(st:St):∀(l:List (Nat×Nat×OK)) (x:Jg (l.map (·.2.2))),dF (fq st l x)=qN l x
 |[],_=>rfl
 |(s,id,ok)::r,x=>by simp only[fq,qN];rw[←u9 st r x.2];rfl
theorem tc(st:St):∀(l:List (Nat×Nat×OK)) (x:Jg (l.map (·.2.2))),(fq st l x).map (·.1)=l.map (·.2.1)
 |[],_=>rfl
 |(s,id,ok)::r,x=>by simp only[fq,List.map_cons];rw[tc st r x.2]
theorem yp(st:St):∀(l:List (Nat×Nat×OK)) (x:Jg (l.map (·.2.2))),(fq st l x).filterMap (·.2.1)=l.flatMap fun p=>oW (look st.tmps p.1)
 |[],_=>rfl
 |(s,id,ok)::r,x=>by
  simp only[fq,List.flatMap_cons]
  rw[dQ,yp st r x.2]
  simp only[]
  rw[wD]
theorem q6{st:St}{s id:Nat}{ok:OK}{r:List (Nat×Nat×OK)}{x:Jg (((s,id,ok)::r).map (·.2.2))}(hd:np st ((s,id,ok)::r)=some x):dU st.heap ok (look st.tmps s)=some x.1∧np st r=some x.2:=by
 have e:np st ((s,id,ok)::r)=(match dU st.heap ok (look st.tmps s),np st r with
  |some x,some y=>some ((x,y):ok.T×Jg (r.map (·.2.2)))
  |_,_=>none):=rfl
 rw[e]at hd
 clear e
 generalize dU st.heap ok (look st.tmps s)=o1 at hd ⊢
 generalize np st r=o2 at hd ⊢
 cases o1 with
 |none=>cases hd
 |some x1 =>
  cases o2 with
  |none=>cases hd
  |some y1=>have:=Option.some.inj hd;subst this;exact⟨rfl,rfl⟩
theorem A4{hd:Hp}{st:St}:∀(l:List (Nat×Nat×OK)) (x:Jg (l.map (·.2.2))),np st l=some x→(∀s∈(l.flatMap fun p=>oW (look st.tmps p.1)),hd s=st.heap.get s) →
  ∀e∈fq st l x,uU Z ψ hd w h' ψ' e
 |[],_,_,_,e,he=>by simp[fq]at he
 |(s,id,ok)::r,x,hx,hk,e,he=>by
  obtain⟨h1,h2⟩:=q6 hx
  simp only[List.flatMap_cons]at hk
  simp only[fq]at he
  rcases List.mem_cons.1 he with rfl|he
  ·exact K4 h1 fun s hs=>hk s (List.mem_append_left _ hs)
  ·exact A4 r x.2 h2 (fun s hs=>hk s (List.mem_append_right _ hs)) e he
theorem G2{st:St}{s:Nat}{k:K}{r:List (Nat×K)}{x:Gg (((s,k)::r).map (·.2))}(hd:qL st ((s,k)::r)=some x):fU k st.heap (look st.tmps s)=some x.1∧qL st r=some x.2:=by
 have e:qL st ((s,k)::r)=(match fU k st.heap (look st.tmps s),qL st r with
  |some x,some y=>some ((x,y):k.T×Gg (r.map (·.2)))
  |_,_=>none):=rfl
 rw[e]at hd
 clear e
 generalize fU k st.heap (look st.tmps s)=o1 at hd ⊢
 generalize qL st r=o2 at hd ⊢
 cases o1 with
 |none=>cases hd
 |some x1 =>
  cases o2 with
  |none=>cases hd
  |some y1=>have:=Option.some.inj hd;subst this;exact⟨rfl,rfl⟩
theorem eX{T:List (Nat×AV)}{n:Nat}{a:Act}(eV:∀p∈T,aw Z ψ h w p.2 (a.tmps.getD p.1 undef))(hs:a.tmps.size=n)(hd:a.defers=[]):cO Z ψ h w n (look T) a:=by
 refine⟨fun d=>?_,hs,hd⟩
 induction T with
 |nil=>simp only[look,aw]
 |cons p r ih =>
  obtain⟨i,v⟩:=p
  simp only[look]
  split
  ·rename_i e;subst e;exact eV _ List.mem_cons_self
  ·exact ih fun p hp=>eV p (List.mem_cons_of_mem _ hp)
section
variable {st:St} {n:Nat} {a:Act}
theorem vc(g:Good Z ψ st.heap.get w B0 O)(t:cO Z ψ st.heap.get w n (look st.tmps) a)(hz:∀b,Z b→Z' b):∀(l:List (Nat×K)) (x:Gg (l.map (·.2))),qL st l=some x →
  (∀id b,AV.bH id∈(l.flatMap fun p=>(look st.tmps p.1).cells)→st.heap.get id≠none→ob (ψ id)=some b→Z' b)→∀p∈qM l x,aw Z' ψ' h' w p.2 (a.tmps.getD p.1 undef)
 |[],_,_,_,p,hp=>by simp[qM]at hp
 |(s,k)::r,x,hx,hf,p,hp=>by
  obtain⟨h1,h2⟩:=G2 hx
  simp only[List.flatMap_cons]at hf
  simp only[qM]at hp
  rcases List.mem_cons.1 hp with rfl|hp
  ·exact rR g hz (fun id b bO=>hf id b (List.mem_append_left _ bO)) h1 (t.rep s)
  ·exact vc g t hz r x.2 h2 (fun id b bO=>hf id b (List.mem_append_right _ bO)) p hp
theorem td(t:cO Z ψ st.heap.get w n (look st.tmps) a):∀(l:List (Src×Nat×BK)) (ids:List Nat),ED st l=some ids→(∀i∈ids,st.heap.get i≠none) →
  (∀p∈ids.zip (l.map (·.2.1)),h' p.2≠none→ψ' p.2=ψ p.1)→∀p∈jO l,aw Z' ψ' h' w p.2 (a.tmps.getD p.1 undef)
 |[],_,_,_,_,p,hp=>by simp[jO]at hp
 |(src,mD,b)::r,ids,hx,hi,jg,p,hp=>by
  simp only[ED]at hx
  split at hx
  ·rename_i i is h1 h2
   cases hx
   simp only[List.map_cons,List.zip_cons_cons]at jg
   have ih:=td t r is h2 (fun j hj=>hi j (List.mem_cons_of_mem _ hj)) (fun p hp=>jg p (List.mem_cons_of_mem _ hp)) p
   cases src with
   |slot s =>
    simp only[jO]at hp
    rcases List.mem_cons.1 hp with rfl|hp
    ·simp only[Vt]at h1
     obtain⟨sz,h3⟩:=pj h1
     have h4:=t.rep s
     rw[h3]at h4
     exact zp h4 (hi i List.mem_cons_self) (jg (i,mD) List.mem_cons_self)
    ·exact ih hp
   |cap s j=>exact ih (by simpa only[jO] using hp)
  ·cases hx
theorem G3{hh:Heap}{ids:List (Nat×Nat)}(hi:∀p∈ids,hh.get p.1≠none)(jg:∀p∈ids,h' p.2≠none→ψ' p.2=ψ p.1):∀(cap:List AV) (is CR:List Nat) (vs:List Value),jM cap=some is →
  is.map (fun i=>(ids.find? (·.1==i)).map (·.2))=CR.map some→an Z ψ hh.get w cap vs→an Z' ψ' h' w (CR.map fun i=>.ref i 0 0 0) vs
 |[],is,CR,vs,h1,h2,hr=>by
  simp only[jM]at h1
  cases h1
  cases CR with
  |nil=>simpa only[List.map_nil,an] using hr
  |cons c r=>simp at h2
 |v::cap,is,CR,vs,h1,h2,hr=>by
  simp only[jM]at h1
  split at h1
  ·rename_i i is' h3 h4
   cases h1
   cases CR with
   |nil=>simp at h2
   |cons c r =>
    simp only[List.map_cons,List.cons.injEq]at h2
    obtain⟨h5,h6⟩:=h2
    simp only[List.map_cons,an]at hr ⊢
    obtain⟨u,us,rfl,h7,h8⟩:=hr
    obtain⟨sz,rfl⟩:=pj h3
    cases hf:ids.find? (·.1==i) with
    |none=>rw[hf]at h5;cases h5
    |some p =>
     rw[hf]at h5
     have hm:=List.mem_of_find?_eq_some hf
     have he:=List.find?_some hf
     simp only[Option.map_some,Option.some.injEq]at h5
     have WO:p.1=i:=by simpa using he
     refine⟨u,us,rfl,zp h7 (by rw[←WO];exact hi p hm) (fun hn=>?_),G3 hi jg cap is' r us h4 h6 h8⟩
     rw[←h5,←WO];exact jg p hm (by rw[h5];exact hn)
  ·cases h1
theorem yq(t:cO Z ψ st.heap.get w n (look st.tmps) a){ids:List (Nat×Nat)}(hi:∀p∈ids,st.heap.get p.1≠none)(jg:∀p∈ids,h' p.2≠none→ψ' p.2=ψ p.1):∀(l:List (Nat×FuncId×List Nat)),K0 st ids l=true →
  ∀p∈zh l,aw Z' ψ' h' w p.2 (a.tmps.getD p.1 undef)
 |[],_,p,hp=>by simp[zh]at hp
 |(s,f,CR)::r,hx,p,hp=>by
  simp only[K0,Bool.and_eq_true]at hx
  simp only[zh,List.map_cons]at hp
  rcases List.mem_cons.1 hp with rfl|hp
  ·have h1:=hx.1
   split at h1
   ·rename_i f' cap hl
    simp only[Bool.and_eq_true,decide_eq_true_eq]at h1
    obtain⟨rfl,h2⟩:=h1
    split at h2
    ·rename_i is hri
     have h4:=t.rep s
     rw[hl]at h4
     simp only[aw]at h4 ⊢
     obtain⟨vs,h5,h6⟩:=h4
     exact⟨vs,h5,G3 hi jg cap is CR _ hri (of_decide_eq_true h2) h6⟩
    ·cases h2
   ·cases h1
  ·exact yq t hi jg r hx.2 p hp
theorem vd(t:cO Z ψ st.heap.get w n (look st.tmps) a):∀(l:List (Nat×Nat×OK)) (x:Jg (l.map (·.2.2))),np st l=some x→(∀e∈fq st l x,h' e.1≠none→ψ' e.1=jS ψ e.2.1) →
  ∀p∈(l.map fun p=>(p.1,AV.bH p.2.1)),aw Z' ψ' h' w p.2 (a.tmps.getD p.1 undef)
 |[],_,_,_,p,hp=>by simp at hp
 |(s,id,ok)::r,x,hx,jg,p,hp=>by
  obtain⟨h1,h2⟩:=q6 hx
  simp only[fq]at jg
  simp only[List.map_cons]at hp
  rcases List.mem_cons.1 hp with rfl|hp
  ·exact EN h1 (t.rep s) (jg _ List.mem_cons_self)
  ·exact vd t r x.2 h2 (fun e he=>jg e (List.mem_cons_of_mem _ he)) p hp
end
theorem ve{st:St}{m:Nat}:∀(l:List (Nat×Nat×OK)) (x:Jg (l.map (·.2.2))),nY st m l=true→∃o,(m,some m,o)∈fq st l x
 |[],_,h=>by cases h
 |(s,id,ok)::r,x,h=>by
  simp only[nY,Bool.or_eq_true,Bool.and_eq_true,beq_iff_eq]at h
  rcases h with⟨rfl,h⟩|h
  ·split at h
   ·rename_i i hl
    have hi:i=id:=by simpa using h
    subst hi
    exact⟨_,by simp only[fq,hl,oW,List.head?_cons];exact List.mem_cons_self⟩
   ·cases h
  ·obtain⟨o,ho⟩:=ve r x.2 h
   exact⟨o,List.mem_cons_of_mem _ ho⟩
theorem tf{st:St}{m:Nat}:∀(l:List (Nat×Nat×OK)) (x:Jg (l.map (·.2.2))),np st l=some x→nY st m l=true→st.heap.get m≠none
 |[],_,_,h=>by cases h
 |(s,id,ok)::r,x,hx,h=>by
  obtain⟨h1,h2⟩:=q6 hx
  simp only[nY,Bool.or_eq_true,Bool.and_eq_true,beq_iff_eq]at h
  rcases h with⟨rfl,h⟩|h
  ·split at h
   ·rename_i i hl
    have hi:i=id:=by simpa using h
    subst hi
    rw[hl]at h1
    simp only[dU]at h1
    split at h1
    ·rename_i hg;rw[hg];simp
    ·cases h1
   ·cases h
  ·exact tf r x.2 h2 h
theorem K9{kM:List AV}{hh:Heap}{b:Nat}(hb:qz Z ψ hh.get kM b):Z b∨Own ψ hh.get b:=hb.imp (fun h=>h) fun⟨i,_,h2,h3⟩=>⟨i,h2,h3⟩
theorem gm{sh:Shape}{st:St}{x:sh.T}{n:Nat}{a:Act}(hx:cG sh st=some x)(k:Ok Z0 w0 O ψ0 Z ψ st.heap.get w)(t:cO Z ψ st.heap.get w n (look st.tmps) a) :
  ∃Z' ψ',Ok Z0 w0 O ψ0 Z' ψ' (ao sh x).heap.get w∧cO Z' ψ' (ao sh x).heap.get w n (look (ao sh x).tmps) a:=by
 unfold cG at hx
 split at hx
 ·cases hx
 rename_i ids ns
 split at hx
 ·rename_i xv xb xr hv hb hr CY
  cases hx
  simp only[Bool.and_eq_true]at CY
  obtain⟨G4,AM,aeJ,aeK⟩:=CY
  obtain⟨hlen,AP⟩:=jo _ _ _ hb
  have VI:(sh.boxes.map (·.2.1)).length=sh.bs.length:=by simp[Shape.bs]
  let L:List xZ:=cx sh.bs st.heap ids (sh.boxes.map (·.2.1)) 9000 xb++fq st sh.rows xr
  have eH:dF L=(ao sh (xv,xb,xr)).heap:=by
   show dF (_++_)=_
   rw[mO,jn _ _ _ _ _ _ hb VI,u9];rfl
  have eN:L.map (·.1)=rL sh:=by
   show(_++_:List xZ).map _=_
   rw[List.map_append,g6 _ _ _ _ _ _ hb VI,tc];rfl
  have eS:L.filterMap (·.2.1)=Gj st sh ids:=by
   show(_++_:List xZ).filterMap _=_
   rw[List.filterMap_append,ki _ _ _ _ _ _ hb VI,yp];rfl
  have hn:b7 (L.map (·.1))=true:=by rw[eN];exact AM
  have jg:=zo (ψ:=ψ) hn
  have hz:∀b,Z b→qz Z ψ st.heap.get (zg st sh ids) b:=fun b hb=>.inl hb
  have I8:=(rY G4).2 st.heap
  have g':Good (qz Z ψ st.heap.get (zg st sh ids)) (eW ψ L) (dF L).get w w0.heap.size O:=by
   refine wE k.dW G4 hn eS fun e he=>?_
   rcases List.mem_append.1 he with he|he
   ·exact lQ k.dW hz sh.bs ids _ 9000 xb hb (fun id b bO h1 h2=>.inr ⟨id,List.mem_append_right _ bO,h1,h2⟩) (fun s hs=>I8 s (List.mem_append_left _ hs)) (fun e he=>jg e (List.mem_append_left _ he)) e he
   ·exact A4 sh.rows xr hr (fun s hs=>I8 s (List.mem_append_right _ hs)) e he
  have Pn:∀p∈ids.zip (sh.boxes.map (·.2.1)),(dF L).get p.2≠none→eW ψ L p.2=ψ p.1:=fun p hp br=>by
   obtain⟨o,ho⟩:=kj sh.bs ids (sh.boxes.map (·.2.1)) 9000 xb (hh:=st.heap) hlen p hp
   exact jg (p.2,some p.1,o) (List.mem_append_left _ ho) br
  have wa:∀p∈ids.zip (sh.boxes.map (·.2.1)),st.heap.get p.1≠none:=fun p hp=>AP _ (List.of_mem_zip hp).1
  refine⟨qz Z ψ st.heap.get (zg st sh ids),eW ψ L,?_,?_⟩
  ·rw[←eH]
   refine⟨g',fun b hb=>.inl (k.fP b hb),fun b hb=>?_,k.os,k.tape,k.output,k.size,k.block,fun i hi br=>?_⟩
   ·rcases K9 hb with h1|⟨id,h1,h2⟩
    ·exact k.eL b h1
    ·exact .inr (k.dW.live id b h1 h2).2.symm
   ·obtain⟨o,ho⟩:=Option.ne_none_iff_exists'.1 br
    obtain⟨s,hm⟩:=oa ho
    have gS:i∈rL sh:=by rw[←eN];exact List.mem_map.2 ⟨_,hm,rfl⟩
    have h1:=List.all_eq_true.1 aeJ i gS
    simp only[Bool.or_eq_true,decide_eq_true_eq]at h1
    rcases h1 with(h1|h1)|h1
    ·omega
    ·obtain⟨p,hp,he⟩:=List.any_eq_true.1 h1
     simp only[Bool.and_eq_true,beq_iff_eq]at he
     have h2:=Pn p hp (by rw[he.2];exact br)
     rw[he.1,he.2]at h2
     rw[h2]
     exact k.fix i hi (by have:=wa p hp;rwa [he.1]at this)
    ·obtain⟨o',nu⟩:=ve sh.rows xr h1
     have h2:eW ψ L i=ψ i:=jg (i,some i,o') (List.mem_append_right _ nu) br
     rw[h2]
     exact k.fix i hi (tf sh.rows xr hr h1)
  ·rw[←eH]
   refine eX (fun p hp=>?_) t.size t.defers
   simp only[ao]at hp
   rcases List.mem_append.1 hp with hp|hp
   ·exact vc k.dW t hz sh.yQ xv hv (fun id b bO h1 h2=>.inr ⟨id,List.mem_append_left _ bO,h1,h2⟩) p hp
   ·rcases List.mem_append.1 hp with hp|hp
    ·exact td t sh.boxes ids ns AP Pn p hp
    ·rcases List.mem_append.1 hp with hp|hp
     ·exact yq t wa Pn sh.fns aeK p hp
     ·exact vd t sh.rows xr hr (fun e he=>jg e (List.mem_append_right _ he)) p hp
 ·cases hx
end Go.Vs
namespace Go.Vs
variable {P:Program} {Eqs:TypeId→Option K} {Sg:FuncId→Option aM} {F:(f:FuncId)→(g:aM)→g.A→Option g.B} {R:Type}
variable {Z Z' Z0:Nat→Prop} {ψ ψ' ψ0:Nat→Value} {h h':Hp} {w w' w0:World} {B0:Nat} {O N:Nat→Prop}
def Reach(P:Program)(b:Frame)(cs:List Frame)(tY:Act→World→Prop)(m:Machine):Prop:=∃a' w' todo,tY a' w'∧Steps P m (lone { b.at a' todo with mode:=.returning } cs w')
theorem Reach.head{b:Frame}{cs:List Frame}{tY:Act→World→Prop}{m m':Machine}(h:step P m=.next m')(r:Reach P b cs tY m'):Reach P b cs tY m:=by
 obtain⟨a,w,todo,h1,h2⟩:=r
 exact⟨a,w,todo,h1,.head h h2⟩
theorem Reach.steps{b:Frame}{cs:List Frame}{tY:Act→World→Prop}{m m':Machine}(h:Steps P m m')(r:Reach P b cs tY m'):Reach P b cs tY m:=by
 obtain⟨a,w,todo,h1,h2⟩:=r
 exact⟨a,w,todo,h1,h.trans h2⟩
mutual
theorem G5{p:Nat→Prop}(hp:∀i,p i):∀v:AV,aJ p v
 |.ref id _ _ _=>by simp only[aJ];exact hp id
 |.bH id=>by simp only[aJ];exact hp id
 |.fn _ cap=>by simp only[aJ];exact sd hp cap
 |.agg cs=>by simp only[aJ];exact sd hp cs
 |.ni vs=>by simp only[aJ];exact sd hp vs
 |.no=>by simp only[aJ]
 |.bool _=>by simp only[aJ]
 |.int _ _=>by simp only[aJ]
 |.str _=>by simp only[aJ]
 |.kY=>by simp only[aJ]
 |.fW=>by simp only[aJ]
 |.fp _ _ _=>by simp only[aJ]
 |.sl _ _ _=>by simp only[aJ]
 |.mp _ _ _=>by simp only[aJ]
theorem sd{p:Nat→Prop}(hp:∀i,p i):∀l:List AV,aC p l
 |[]=>by simp only[aC]
 |v::r=>by simp only[aC];exact⟨G5 hp v,sd hp r⟩
end
theorem T8(s:Nat){n:Nat}{a:Act}{st:St}(k:Ok Z0 w0 O ψ0 Z ψ st.heap.get w)(t:cO Z ψ st.heap.get w n (look st.tmps) a):∃Z',Ok Z0 w0 O ψ0 Z' ψ (ON s st).heap.get w∧cO Z' ψ (ON s st).heap.get w n (look (ON s st).tmps) a:=by
 unfold ON
 split
 ·rename_i m hl
  split
  ·rename_i ty kk xs hg
   have g:=k.dW
   obtain⟨vs,PO,uR⟩:=g.row m (.row ty kk) xs hg
   have hs:∀i o,(st.heap.del m).get i=some o→st.heap.get i=some o:=fun i o hi=>by rw[uO]at hi;by_cases e:i=m<;>simp_all [ed]
   have gg:=g.freeze (Z':=fun b=>Z b∨ob (ψ m)=some b) (h':=(st.heap.del m).get) hs (fun b hb=>.inl hb) (fun b hb=>hb.imp (fun h=>h) (fun hb=>⟨m,by rw[hg];simp,by rw[uO,bw],hb⟩))
   have n1:Next Z ψ st.heap.get w w0.heap.size O (fun _=>False) (fun b=>Z b∨ob (ψ m)=some b) ψ (st.heap.del m).get w:=⟨fun b hb=>.inl hb,fun b hb=>hb.imp (fun h=>h) (fun hb=>.inl ⟨m,by rw[hg];simp,hb⟩),db.refl _ _ _,fun i hi=>by
    obtain⟨o,ho⟩:=Option.ne_none_iff_exists'.1 hi
    exact .inl ⟨by rw[hs i o ho];simp,rfl⟩,gg⟩
   refine⟨_,k.next (fun id h=>h.elim) n1,⟨fun d=>?_,t.size,t.defers⟩⟩
   rw[r8 _ rfl]
   have hr:=t.rep d
   by_cases hv:look st.tmps d=.bH m
   ·rw[hv]at hr ⊢
    simp only[aw]at hr
    have hu:=hr.2 (by rw[hg];simp)
    simp only[yP,if_true,aw]
    exact⟨by rw[hu];exact uK PO uR (fun b hb=>.inl hb) (fun b hb=>.inr hb),by simp⟩
   ·have hf:yP m (.sl false kk xs) (look st.tmps d)=look st.tmps d:=by
     unfold yP
     split
     ·split
      ·rename_i i hi e;subst e;exact absurd hi hv
      ·rename_i i hi e;exact hi.symm
     ·rfl
    rw[hf]
    exact n1.rep g (G5 (fun _ h=>h) _) hr
  ·exact⟨Z,k,t⟩
 ·exact⟨Z,k,t⟩
theorem PQ{n:Nat}{a:Act}(o:Option Shape){st:St}(k:Ok Z0 w0 O ψ0 Z ψ st.heap.get w)(t:cO Z ψ st.heap.get w n (look st.tmps) a):∃Z',Ok Z0 w0 O ψ0 Z' ψ (Gk o st).heap.get w∧cO Z' ψ (Gk o st).heap.get w n (look (Gk o st).tmps) a:=by
 unfold Gk
 split
 ·rename_i sh
  generalize sh.rows=l
  induction l generalizing Z st with
  |nil=>exact⟨Z,k,t⟩
  |cons p r ih =>
   obtain⟨Z1,k1,t1⟩:=T8 p.1 k t
   exact ih k1 t1
 ·exact⟨Z,k,t⟩
theorem q7(V:Env P Eqs Sg F)(hm:P.follows .mixedOrders=true){n:Nat}{ann:Nat→Option Shape}{J:(sh:Shape)→List Item→sh.T→Option R}{ret:St→Option R}{r:R}{b:Frame}{cs:List Frame}{tY:Act→World→Prop}
  (hJ:∀sh c k x Z ψ a w,J sh (.inLoop c::k) x=some r→Ok Z0 w0 O ψ0 Z ψ (ao sh x).heap.get w→cO Z ψ (ao sh x).heap.get w n (look (ao sh x).tmps) a→Reach P b cs tY (lone (b.at a (.code c::.inLoop c::k)) cs w))
  (sN:∀st Z ψ a w,ret st=some r→Ok Z0 w0 O ψ0 Z ψ st.heap.get w→cO Z ψ st.heap.get w n (look st.tmps) a→tY a w) :
  ∀(fu:Nat) (items:List Item) (st:St) (Z:Nat→Prop) (ψ:Nat→Value) (a:Act) (w:World),aA P Eqs Sg F n ann J ret fu items st=some r→Ok Z0 w0 O ψ0 Z ψ st.heap.get w→cO Z ψ st.heap.get w n (look st.tmps) a →
   Reach P b cs tY (lone (b.at a items) cs w)
 |0,items,st,Z,ψ,a,w,hx,k,t=>by
  cases items<;>simp only[aA]at hx<;>cases hx
 |fu+1,[],st,Z,ψ,a,w,hx,k,t=>⟨a,w,[],sN st Z ψ a w (by simpa only[aA] using hx) k t,.one step_end⟩
 |fu+1,it::M3,st,Z,ψ,a,w,hx,k,t=>by
  have ih:=q7 V hm (ann:=ann) hJ sN fu
  have loop:∀c,(match ann (rM c) with
    |none=>none
    |some sh=>match cG sh st with
     |some x=>J sh (.inLoop c::M3) x
     |none=>none)=some r→Reach P b cs tY (lone (b.at a (.code c::.inLoop c::M3)) cs w):=fun c hx=>by
   split at hx
   ·cases hx
   ·rename_i sh hsh
    split at hx
    ·rename_i x hxx
     obtain⟨Z',ψ',k',t'⟩:=gm hxx k t
     exact hJ sh c M3 x Z' ψ' a w hx k' t'
    ·cases hx
  cases it with
  |inBlock id=>exact .head step_inBlock (ih M3 st Z ψ a w (by simpa only[aA] using hx) k t)
  |inScope c=>exact .head step_inScope (ih M3 st Z ψ a w (by simpa only[aA] using hx) k t)
  |inLoop c=>exact .head step_inLoop (loop c (by simp only[aA]at hx;exact hx))
  |code c =>
   cases c with
   |skip=>exact .head step_skip (ih M3 st Z ψ a w (by simpa only[aA] using hx) k t)
   |label l=>exact .head step_label (ih M3 st Z ψ a w (by simpa only[aA] using hx) k t)
   |seq x y=>exact .head step_seq (ih _ st Z ψ a w (by simpa only[aA] using hx) k t)
   |cond c x y =>
    simp only[aA]at hx
    split at hx
    ·rename_i tt ht
     have h1:=qY t c
     rw[ht]at h1
     simp only[aw]at h1
     cases tt with
     |true=>exact .head (step_cond h1) (ih _ st Z ψ a w hx k t)
     |false=>exact .head (step_cond h1) (ih _ st Z ψ a w hx k t)
    ·cases hx
   |scope c=>exact .head step_scope (ih _ st Z ψ a w (by simpa only[aA] using hx) k t)
   |block id c=>exact .head step_block (ih _ st Z ψ a w (by simpa only[aA] using hx) k t)
   |loop c =>
    simp only[aA]at hx
    cases fu with
    |zero=>simp only[aA]at hx;cases hx
    |succ fu=>exact .head step_loop (loop c (by simp only[aA]at hx;exact hx))
   |exit id =>
    simp only[aA]at hx
    split at hx
    ·rename_i k' hk;exact .head (step_exit hk) (ih _ st Z ψ a w hx k t)
    ·cases hx
   |ret=>exact⟨a,w,_,sN st Z ψ a w (by simpa only[aA] using hx) k t,.one step_ret⟩
   |region id ops draw =>
    simp only[aA]at hx
    obtain⟨Zf,k,t⟩:=PQ (ann (500000+id)) k t
    have hw:=E2 V hm (Q:=fun e a w=>e=.normal∧∃eJ Z ψ,aA P Eqs Sg F n ann J ret fu M3 eJ=some r∧Ok Z0 w0 O ψ0 Z ψ eJ.heap.get w∧cO Z ψ eJ.heap.get w n (look eJ.tmps) a) hx k t (fun eJ Z ψ a w h1 h2 h3=>⟨rfl,eJ,Z,ψ,h1,h2,h3⟩)
    obtain⟨e,a',w',⟨rfl,eJ,Z',ψ',h1,h2,h3⟩,Pk⟩:=hw b M3 cs
    exact .steps Pk (ih M3 eJ Z' ψ' a' w' h1 h2 h3)
   |_=>simp only[aA]at hx;cases hx
  |_=>simp only[aA]at hx;cases hx
theorem q8{hh:Heap}{n:Nat}{s:List (Nat×AV)}{a:Act}(g:Good Z ψ hh.get w B0 O)(t:cO Z ψ hh.get w n (look s) a):∀(l:List ResultVar) (acc:Array Value) (vs:List AV),xQ P hh s l=some vs →
  ∃us,(l.foldlM (fun(bs:Array Value) r=>do let y ←(match r with | .tmp t=>pure (a.tmps.getD t undef) | .cell p ty=>do loadVar ty (←asAddr (a.tmps.getD p undef)):Sem Value);pure (bs.push y)) acc:Sem (Array Value)).run P w=.ok (acc++us.toArray) w∧an Z ψ hh.get w vs us
 |[],acc,vs,hx=>by
  simp only[xQ]at hx
  cases hx
  exact⟨[],by simp,by simp only[an]⟩
 |.tmp d::l,acc,vs,hx=>by
  simp only[xQ]at hx
  split at hx
  ·rename_i g8 h1
   cases hx
   obtain⟨us,h2,h3⟩:=q8 g t l (acc.push (a.tmps.getD d undef)) g8 h1
   refine⟨a.tmps.getD d undef::us,?_,by simp only[an];exact⟨_,_,rfl,t.rep d,h3⟩⟩
   simp only[List.foldlM_cons,Sem.run_bind,Sem.run_pure,Result.andThen_ok]
   rw[h2];simp
  ·cases hx
 |.cell d ty::l,acc,vs,hx=>by
  simp only[xQ]at hx
  split at hx
  ·rename_i id sz off hd
   split at hx
   ·rename_i bt cs hg
    split at hx
    ·rename_i v g8 hv h1
     cases hx
     have h4:=t.rep d
     rw[hd]at h4
     simp only[aw]at h4
     obtain⟨ad,h5,h6⟩:=h4
     obtain⟨gg,ws,e1,e2,e3,e4⟩:=g.box id bt cs hg
     have h7:=h6 (by rw[hg];simp)
     rw[e1]at h7
     simp only[TE,Nat.zero_mul,Nat.zero_add]at h7
     subst h7
     obtain⟨V,h8,h9⟩:=jQ (a:=⟨gg,off,none⟩) (e3.drop off) (fun j u hu=>by
      rw[ck];simp only[World.cell?,e2];rw[List.getElem?_drop]at hu;simpa using hu) hv
     have nr:(loadVar ty ⟨gg,off,none⟩).run P w=.ok V w:=by
      have:=h8
      simpa[Instr.loadAt,Instr.sureAddr] using this
     obtain⟨us,h2,h3⟩:=q8 g t l (acc.push V) g8 h1
     refine⟨V::us,?_,by simp only[an];exact⟨_,_,rfl,h9,h3⟩⟩
     have yR:(asAddr (a.tmps.getD d undef)).run P w=.ok ⟨gg,off,none⟩ w:=by rw[h5];rfl
     simp only[List.foldlM_cons,Sem.run_bind,yR,Sem.run_pure,Result.andThen_ok,nr]
     rw[h2];simp
    ·cases hx
   ·cases hx
  ·cases hx
theorem G6{fn:Func}{hh:Heap}{n:Nat}{s:List (Nat×AV)}{a:Act}{vs:List AV}(g:Good Z ψ hh.get w B0 O)(t:cO Z ψ hh.get w n (look s) a)(hx:xQ P hh s fn.results.toList=some vs) :
  ∃us v,(results fn a.tmps).run P w=.ok v w∧an Z ψ hh.get w vs us∧v=(if us.length=1 then us.headD undef else .tuple us.toArray):=by
 obtain⟨us,h1,h2⟩:=q8 (P:=P) g t fn.results.toList #[] vs hx
 refine⟨us,_,?_,h2,rfl⟩
 have h3:(fn.results.mapM fun r=>(match r with | .tmp t=>pure (a.tmps.getD t undef) | .cell p ty=>do loadVar ty (←asAddr (a.tmps.getD p undef)):Sem Value)).run P w=.ok us.toArray w:=by
  rw[Array.mapM_eq_foldlM,←Array.foldlM_toList]
  simpa using h1
 have h4:results fn a.tmps=(do
   let vs ←fn.results.mapM fun r=>(match r with | .tmp t=>pure (a.tmps.getD t undef) | .cell p ty=>do loadVar ty (←asAddr (a.tmps.getD p undef)):Sem Value)
   pure (if h:vs.size=1 then vs[0] else .tuple vs)):=rfl
 rw[h4,Sem.run_bind,h3,Result.andThen_ok,Sem.run_pure]
 congr 1
 by_cases h5:us.length=1
 ·obtain⟨u,rfl⟩:=List.length_eq_one_iff.1 h5
  simp
 ·rw[dif_neg (by simpa using h5),if_neg h5]
end Go.Vs
namespace Go.Vs
variable {P:Program} {Eqs:TypeId→Option K} {Sg:FuncId→Option aM} {F:(f:FuncId)→(g:aM)→g.A→Option g.B} {R:Type}
variable {Z Z' Z0:Nat→Prop} {ψ ψ' ψ0:Nat→Value} {h h':Hp} {w w' w0:World} {B0:Nat} {O N:Nat→Prop}
theorem gq:∀(ps:List PK) (ids:List Nat) (s:Nat) (x:Gg (kO ps)) (us:List Value),an Z ψ h w ((aU ps ids s x).map (·.2)) us→us.length=ps.length∧∀p∈aU ps ids s x,∃j u,p.1=s+j∧us[j]? = some u∧aw Z ψ h w p.2 u
 |[],ids,s,x,us,hr=>by
  simp only[aU,List.map_nil,an]at hr
  subst hr
  exact⟨rfl,fun p hp=>by simp[aU]at hp⟩
 |.val k::ps,ids,s,x,us,hr=>by
  simp only[aU,List.map_cons,an]at hr
  obtain⟨u,iY,rfl,h1,h2⟩:=hr
  obtain⟨h3,h4⟩:=gq ps ids (s+1) x.2 iY h2
  refine⟨by simp[h3],fun p hp=>?_⟩
  simp only[aU]at hp
  rcases List.mem_cons.1 hp with rfl|hp
  ·exact⟨0,u,rfl,rfl,h1⟩
  ·obtain⟨j,u',h5,h6,h7⟩:=h4 p hp
   exact⟨j+1,u',by omega,by simpa using h6,h7⟩
 |.ref::ps,i::ids,s,x,us,hr=>by
  simp only[aU,List.map_cons,an]at hr
  obtain⟨u,iY,rfl,h1,h2⟩:=hr
  obtain⟨h3,h4⟩:=gq ps ids (s+1) x iY h2
  refine⟨by simp[h3],fun p hp=>?_⟩
  simp only[aU]at hp
  rcases List.mem_cons.1 hp with rfl|hp
  ·exact⟨0,u,rfl,rfl,h1⟩
  ·obtain⟨j,u',h5,h6,h7⟩:=h4 p hp
   exact⟨j+1,u',by omega,by simpa using h6,h7⟩
 |.ref::ps,[],s,x,us,hr=>by
  simp only[aU,List.map_cons,an]at hr
  obtain⟨u,iY,rfl,h1,h2⟩:=hr
  obtain⟨h3,h4⟩:=gq ps [] (s+1) x iY h2
  refine⟨by simp[h3],fun p hp=>?_⟩
  simp only[aU]at hp
  rcases List.mem_cons.1 hp with rfl|hp
  ·exact⟨0,u,rfl,rfl,h1⟩
  ·obtain⟨j,u',h5,h6,h7⟩:=h4 p hp
   exact⟨j+1,u',by omega,by simpa using h6,h7⟩
 |.own::ps,i::ids,s,x,us,hr=>by
  simp only[aU,List.map_cons,an]at hr
  obtain⟨u,iY,rfl,h1,h2⟩:=hr
  obtain⟨h3,h4⟩:=gq ps ids (s+1) x iY h2
  refine⟨by simp[h3],fun p hp=>?_⟩
  simp only[aU]at hp
  rcases List.mem_cons.1 hp with rfl|hp
  ·exact⟨0,u,rfl,rfl,h1⟩
  ·obtain⟨j,u',h5,h6,h7⟩:=h4 p hp
   exact⟨j+1,u',by omega,by simpa using h6,h7⟩
 |.own::ps,[],s,x,us,hr=>by
  simp only[aU,List.map_cons,an]at hr
  obtain⟨u,iY,rfl,h1,h2⟩:=hr
  obtain⟨h3,h4⟩:=gq ps [] (s+1) x iY h2
  refine⟨by simp[h3],fun p hp=>?_⟩
  simp only[aU]at hp
  rcases List.mem_cons.1 hp with rfl|hp
  ·exact⟨0,u,rfl,rfl,h1⟩
  ·obtain⟨j,u',h5,h6,h7⟩:=h4 p hp
   exact⟨j+1,u',by omega,by simpa using h6,h7⟩
 |.F9 f m::ps,ids,s,x,us,hr=>by
  simp only[aU,List.map_cons,an]at hr
  obtain⟨u,iY,rfl,h1,h2⟩:=hr
  obtain⟨h3,h4⟩:=gq ps (ids.drop m) (s+1) x iY h2
  refine⟨by simp[h3],fun p hp=>?_⟩
  simp only[aU]at hp
  rcases List.mem_cons.1 hp with rfl|hp
  ·exact⟨0,u,rfl,rfl,h1⟩
  ·obtain⟨j,u',h5,h6,h7⟩:=h4 p hp
   exact⟨j+1,u',by omega,by simpa using h6,h7⟩
 |.agg m::ps,ids,s,x,us,hr=>by
  simp only[aU,List.map_cons,an]at hr
  obtain⟨u,iY,rfl,h1,h2⟩:=hr
  obtain⟨h3,h4⟩:=gq ps (ids.drop m) (s+1) x iY h2
  refine⟨by simp[h3],fun p hp=>?_⟩
  simp only[aU]at hp
  rcases List.mem_cons.1 hp with rfl|hp
  ·exact⟨0,u,rfl,rfl,h1⟩
  ·obtain⟨j,u',h5,h6,h7⟩:=h4 p hp
   exact⟨j+1,u',by omega,by simpa using h6,h7⟩
section
variable {An:FuncId→Nat→Option Shape}
theorem A5(V:Env P Eqs Sg F)(hm:P.follows .mixedOrders=true){f:FuncId}{g:aM}{fn:Func}{y:g.B}{b:Frame}{cs:List Frame}{tY:Act→World→Prop}
  (sN:∀st Z ψ a w,qO P g fn st=some y→Ok Z0 w0 O ψ0 Z ψ st.heap.get w→cO Z ψ st.heap.get w fn.ntmps (look st.tmps) a→tY a w) :
  ∀(n:Nat) (sh:Shape) (c:Code) (k:List Item) (x:sh.T) (Z:Nat→Prop) (ψ:Nat→Value) (a:Act) (w:World),mE P Eqs Sg An F f g fn n sh (.inLoop c::k) x=some y →
   Ok Z0 w0 O ψ0 Z ψ (ao sh x).heap.get w→cO Z ψ (ao sh x).heap.get w fn.ntmps (look (ao sh x).tmps) a→Reach P b cs tY (lone (b.at a (.code c::.inLoop c::k)) cs w)
 |0,sh,c,k,x,Z,ψ,a,w,hx,_,_=>by simp only[mE]at hx;cases hx
 |n+1,sh,c,k,x,Z,ψ,a,w,hx,ko,t=>by
  simp only[mE]at hx
  exact q7 V hm (fun sh c k x Z ψ a w h1 h2 h3=>A5 V hm sN n sh c k x Z ψ a w h1 h2 h3) sN fuel _ _ Z ψ a w hx ko t
theorem E3{n i:Nat}(h:i∈aP n):∃j,j<n∧i=1000+20*j:=by
 unfold aP at h
 obtain⟨j,h1,rfl⟩:=List.mem_map.1 h
 exact⟨j,List.mem_range.1 h1,rfl⟩
theorem PR{α:Type}{l:List α}{a:α}(h:a∈l):(a,a)∈l.zip l:=by
 induction l with
 |nil=>cases h
 |cons b r ih =>
  simp only[List.zip_cons_cons]
  rcases List.mem_cons.1 h with rfl|h
  ·exact List.mem_cons_self
  ·exact List.mem_cons_of_mem _ (ih h)
theorem JS(V:Env P Eqs Sg F)(hm:P.follows .mixedOrders=true){f:FuncId}{g:aM}{n:Nat}{x:g.A}{y:g.B}(hx:Jh P Eqs Sg An F f g n x=some y):DF P f g x y:=by
 intro Z ψ0 w kl hg hr
 unfold Jh at hx
 split at hx
 ·cases hx
 rename_i fn c VJ
 have hf:P.funcs[f%1000]? = some fn∧fn.body=some c:=by
  unfold body at VJ
  obtain⟨fn',h1,h2⟩:=Option.bind_eq_some_iff.1 VJ
  obtain⟨c',h3,h4⟩:=Option.map_eq_some_iff.1 h2
  cases h4
  exact⟨h1,h3⟩
 split at hx
 ·rename_i hle
  simp only[Bool.and_eq_true,decide_eq_true_eq]at hle
  obtain⟨hlen,Xm⟩:=gq g.ps (aP g.bs.length) 0 x.1 kl hr
  intro cs
  let b:Frame:={ (default:Frame) with fn:=f%1000,kind:=.normal }
  let a0:Act:={ tmps:=kl.toArray++Array.replicate (fn.ntmps-kl.toArray.size) undef,defers:=[] }
  have Xn:Frame.enter P (f%1000) kl.toArray .normal=b.at a0 [.code c]:=by
   simp[Frame.enter,Frame.at,hf.1,hf.2,b,a0]
  have ok0:Ok Z w (Own ψ0 (py g x)) ψ0 Z ψ0 (entry g x).heap.get w :=
   ⟨hg,fun _ h=>h,fun _ h=>.inl h,rfl,rfl,rfl,Nat.le_refl _,fun _ _ _=>rfl,fun _ _ _=>rfl⟩
  have tr0:cO Z ψ0 (entry g x).heap.get w fn.ntmps (look (entry g x).tmps) a0:=by
   refine eX (fun p hp=>?_) (by simp[a0];omega) rfl
   obtain⟨j,u,h1,h2,h3⟩:=Xm p hp
   rw[h1]
   have hj:j<kl.length:=(List.getElem?_eq_some_iff.1 h2).1
   have:a0.tmps.getD (0+j) undef=u:=by
    rw[Nat.zero_add,Array.getD_eq_getD_getElem?]
    simp only[a0]
    rw[Array.getElem?_append_left (by simpa using hj)]
    simp[h2]
   rw[this];exact h3
  have sN:∀st Z1 nO a w1,qO P g fn st=some y→Ok Z w (Own ψ0 (py g x)) ψ0 Z1 nO st.heap.get w1→cO Z1 nO st.heap.get w1 fn.ntmps (look st.tmps) a →
    a.defers=[]∧∃v,(results fn a.tmps).run P w1=.ok v w1∧∃v' Z' ψ',Ending.returned v=.returned v'∧(∀b,Z b→Z' b)∧(∀b,Z' b→Z b∨Own ψ0 (py g x) b∨w.heap.size≤b)∧db ψ0 (py g x) w w1 ∧
     Good Z' ψ' (jV g y).get w1 w.heap.size (Own ψ0 (py g x))∧(∀i∈aP g.bs.length,ψ' i=ψ0 i)∧aw Z' ψ' (jV g y).get w1 (fb (aV g.rs (aP g.bs.length) 2000 3000 y.1)) v':=by
   intro st Z1 nO a w1 sN k t
   refine⟨t.defers,?_⟩
   unfold qO at sN
   split at sN
   ·cases sN
   rename_i vs tJ
   split at sN
   ·rename_i y1 y2 hd hb CY
    cases sN
    simp only[Bool.and_eq_true]at CY
    obtain⟨G4,AM⟩:=CY
    obtain⟨us,v,h1,h2,h3⟩:=G6 (P:=P) k.dW t tJ
    have VI:(aP g.bs.length).length=g.bs.length:=by simp[aP]
    let L:List xZ:=cx g.bs st.heap (aP g.bs.length) (aP g.bs.length) 2000 y2++cE g.rs vs 3000 y1
    have eH:dF L=jV g (y1,y2):=by
     show dF (_++_)=_
     rw[mO,jn _ _ _ _ _ _ hb VI,gI];rfl
    have eN:L.map (·.1)=qC g:=by
     show(_++_:List xZ).map _=_
     rw[List.map_append,g6 _ _ _ _ _ _ hb VI,fK];rfl
    have eS:L.filterMap (·.2.1)=da g.bs st.heap (aP g.bs.length)++dO g.rs vs:=by
     show(_++_:List xZ).filterMap _=_
     rw[List.filterMap_append,ki _ _ _ _ _ _ hb VI,iK _ _ _ _ hd]
    have hn:b7 (L.map (·.1))=true:=by rw[eN];exact AM
    have jg:=zo (ψ:=nO) hn
    have hz:∀b,Z1 b→qz Z1 nO st.heap.get (fZ g.rs vs++fY g.bs st.heap (aP g.bs.length)) b:=fun b hb=>.inl hb
    have I8:=(rY G4).2 st.heap
    have g':Good (qz Z1 nO st.heap.get (fZ g.rs vs++fY g.bs st.heap (aP g.bs.length))) (eW nO L) (dF L).get w1 w.heap.size (Own ψ0 (py g x)):=by
     refine wE k.dW G4 hn eS fun e he=>?_
     rcases List.mem_append.1 he with he|he
     ·exact lQ k.dW hz g.bs _ _ 2000 y2 hb (fun id b bO h1 h2=>.inr ⟨id,List.mem_append_right _ bO,h1,h2⟩) (fun s hs=>I8 s (List.mem_append_left _ hs)) (fun e he=>jg e (List.mem_append_left _ he)) e he
     ·exact jU g.rs vs 3000 y1 hd (fun s hs=>I8 s (List.mem_append_right _ hs)) e he
    obtain⟨DR,AP⟩:=jo _ _ _ hb
    have On:=rZ (ids2:=aP g.bs.length) (Z':=qz Z1 nO st.heap.get (fZ g.rs vs++fY g.bs st.heap (aP g.bs.length))) (ψ':=eW nO L) (h':=(dF L).get) k.dW hz hb VI (fun e he=>jg e (List.mem_append_left _ he)) g.rs vs 3000 y1 us hd
     (fun id b bO h1 h2=>.inr ⟨id,List.mem_append_left _ bO,h1,h2⟩) (fun e he=>jg e (List.mem_append_right _ he)) h2
    refine⟨v,h1,v,qz Z1 nO st.heap.get (fZ g.rs vs++fY g.bs st.heap (aP g.bs.length)),eW nO L,rfl,fun b hb=>.inl (k.fP b hb),fun b hb=>?_,⟨k.os,k.tape,k.output,k.size,k.block⟩,by rw[←eH];exact g',fun i hi=>?_,?_⟩
    ·rcases K9 hb with h4|⟨id,h4,h5⟩
     ·exact k.eL b h4
     ·exact .inr (k.dW.live id b h4 h5).2.symm
    ·obtain⟨o,ho⟩:=kj (hh:=st.heap) g.bs (aP g.bs.length) (aP g.bs.length) 2000 y2 DR (i,i) (PR hi)
     rw[iJ hn (List.mem_append_left _ ho)]
     obtain⟨j,h4,h5⟩:=E3 hi
     exact k.fix i (by omega) (AP i hi)
    ·rw[←eH]
     have OT:us.length=(aV g.rs (aP g.bs.length) 2000 3000 y1).length:=On.length.symm
     rw[h3]
     match hE:aV g.rs (aP g.bs.length) 2000 3000 y1,us,On,OT with
     |[],[],On,_=>simp only[fb];simp only[aw];exact⟨#[],rfl,by simpa using On⟩
     |[e1],[u],On,_ =>
      simp only[an]at On
      obtain⟨u',iY,he,h4,_⟩:=On
      cases he
      simpa[fb] using h4
     |e1::e2::er,u1::u2::ur,On,_ =>
      simp only[fb,aw]
      exact⟨(u1::u2::ur).toArray,by simp,by simpa using On⟩
   ·cases sN
  have reach:=q7 V hm (b:=b) (cs:=cs) (fun sh c k x Z ψ a w h1 h2 h3=>A5 V hm sN n sh c k x Z ψ a w h1 h2 h3) sN fuel _ _ Z ψ0 a0 w hx ok0 tr0
  obtain⟨a',w',todo,⟨hd,v,vf,hR⟩,hs⟩:=reach
  rw[←Xn]at hs
  exact⟨.returned v,w',_,hR,hs,rfl,rfl,hd,rfl,fn,hf.1,vf⟩
 ·cases hx
end
theorem G7(hX:∀f g u,Sg f=some g→g.x=some u→iA P (f%1000) u){G:(f:FuncId)→(g:aM)→Option (g.A→Option g.B)}{An:FuncId→Nat→Option Shape}(CL:∀t k,Eqs t=some k→lN P t k)(MO:∀f g,Sg f=some g→jq P (f%1000))(hm:P.follows .mixedOrders=true)
  (hG:∀f g u x y,Sg f=some g→G f g=some u→u x=some y→DF P f g x y):∀(m:Nat) f g x y,Sg f=some g→Fn P Eqs Sg An G m f g x=some y→DF P f g x y
 |0,f,g,x,y,hs,hx=>by
  simp only[Fn]at hx
  split at hx
  ·rename_i u hu;exact hG f g u x y hs hu hx
  ·cases hx
 |m+1,f,g,x,y,hs,hx=>by
  simp only[Fn]at hx
  split at hx
  ·rename_i u hu;exact hG f g u x y hs hu hx
  ·exact JS ⟨CL,fun f g x y h1 h2=>G7 hX CL MO hm hG m f g x y h1 h2,hX,MO⟩ hm hx
end Go.Vs
namespace Go.Vs
abbrev FT:=(f:FuncId)→(g:aM)→g.A→Option g.B
variable {P:Program} {Eqs:TypeId→Option K} {Sg:FuncId→Option aM} {R:Type}
def uz(p:Nat→Prop):Prop:=∃m,∀m',m≤m'→p m'
theorem uz.now{p:Nat→Prop}(h:∀m,p m):uz p:=⟨0,fun m _=>h m⟩
theorem uz.and{p q r:Nat→Prop}(h:uz p)(k:uz q)(hr:∀m,p m→q m→r m):uz r:=by
 obtain⟨a,ha⟩:=h
 obtain⟨b,hb⟩:=k
 exact⟨max a b,fun m hm=>hr m (ha m (by omega)) (hb m (by omega))⟩
theorem uz.imp{p r:Nat→Prop}(h:uz p)(hr:∀m,p m→r m):uz r:=by
 obtain⟨a,ha⟩:=h
 exact⟨a,fun m hm=>hr m (ha m hm)⟩
def To(A:Nat→FT)(L:FT):Prop:=∀f g x y,L f g x=some y→uz fun m=>A m f g x=some y
def ToK{α:Type}(A:Nat→α→Option R)(L:α→Option R):Prop:=∀x y,L x=some y→uz fun m=>A m x=some y
def ToJ(A:Nat→(sh:Shape)→List Item→sh.T→Option R)(L:(sh:Shape)→List Item→sh.T→Option R):Prop:=∀sh k x y,L sh k x=some y→uz fun m=>A m sh k x=some y
theorem PS(h:Heap)(id:Nat)(f:FuncId)(vs:List AV):(∀F F':FT,jk Sg F h id f vs some=jk Sg F' h id f vs some) ∨
  ∃ff g x,(∀F F':FT,F ff g x=F' ff g x→jk Sg F h id f vs some=jk Sg F' h id f vs some)∧∀F:FT,F ff g x=none→jk Sg F h id f vs some=none:=by
 unfold jk
 split
 ·exact .inl fun _ _=>rfl
 rename_i g hg
 split
 ·exact .inl fun _ _=>rfl
 split
 ·split
  ·split
   ·rename_i x b hx hb hp
    refine .inr ⟨_,g,(x,b),fun F F' e=>by rw[e],fun F e=>by rw[e];rfl⟩
   ·exact .inl fun _ _=>rfl
  ·split
   ·rename_i x b hx hb hp
    refine .inr ⟨_,g,(x,b),fun F F' e=>by rw[e],fun F e=>by rw[e];rfl⟩
   ·exact .inl fun _ _=>rfl
 ·exact .inl fun _ _=>rfl
theorem T9{A:Nat→FT}{L:FT}(hA:To A L){h:Heap}{id:Nat}{f:FuncId}{vs:List AV}{e:bI}(he:jk Sg L h id f vs some=some e):uz fun m=>jk Sg (A m) h id f vs some=some e:=by
 rcases PS (Sg:=Sg) h id f vs with k|⟨ff,g,x,k1,k2⟩
 ·exact .now fun m=>(k _ _).trans he
 ·cases hy:L ff g x with
  |none=>rw[k2 L hy]at he;cases he
  |some y=>exact(hA _ _ _ _ hy).imp fun m hm=>(k1 (A m) L (hm.trans hy.symm)).trans he
theorem G8{A:Nat→FT}{L:FT}(hA:To A L){id:Nat}{h:Heap}{s:List (Nat×AV)}{o:Oper}{e:bI}(he:cU P Eqs Sg L id h s o some=some e):uz fun m=>cU P Eqs Sg (A m) id h s o some=some e:=by
 obtain⟨dst,op,type,pos,after,guard⟩:=o
 cases op with
 |call c =>
  obtain⟨callee,args,argTypes⟩:=c
  cases callee with
  |value f =>
   simp only[cU]at he
   split at he
   ·rename_i f' cap hf
    refine(T9 hA he).imp fun m hm=>?_
    simp only[cU,hf]
    exact hm
   ·cases he
  |builtin bi=>cases bi<;>exact .now fun m=>he
  |invoke _ _=>exact .now fun m=>he
 |unOp u _ _=>cases u<;>exact .now fun m=>he
 |makeFunc fn _ _=>cases fn<;>exact .now fun m=>he
 |makeMap _ r=>cases r<;>exact .now fun m=>he
 |next _ b=>cases b<;>exact .now fun m=>he
 |_=>exact .now fun m=>he
theorem uz.all{p:Nat→Nat→Prop}:∀(n:Nat),(∀j,j<n→uz (p j))→uz fun m=>∀j,j<n→p j m
 |0,_=>.now fun m j hj=>absurd hj (Nat.not_lt_zero _)
 |n+1,h=>(uz.all n fun j hj=>h j (by omega)).and (h n (by omega)) fun m h1 h2 j hj=>by
  by_cases e:j=n
  ·subst e;exact h2
  ·exact h1 j (by omega)
theorem JU{h:Heap}{x:AV}{K:Nat→AV→Heap→Option R}{KL:AV→Heap→Option R}(hK:∀v h y,KL v h=some y→uz fun m=>K m v h=some y){r:R}(he:k0 h x KL=some r):uz fun m=>k0 h x (K m)=some r:=by
 unfold k0 at he ⊢
 split at he
 ·rename_i id
  split at he
  ·rename_i kk vk p hg
   try simp only[hg]
   cases hp:p.2 with
   |nil =>
    simp only[hp,List.isEmpty_nil,cond_true]at he ⊢
    exact hK _ _ _ he
   |cons c l =>
    simp only[hp,List.isEmpty_cons,cond_false]at he ⊢
    have h1:=oo he
    refine(uz.all _ fun j hj=>?_).imp fun m hm=>mT (by simp) hm
    have h2:=h1 j hj
    rw[List.getElem?_eq_getElem hj]at h2 ⊢
    simp only[Option.bind_some]at h2 ⊢
    exact hK _ _ _ h2
  ·cases he
 ·cases he
theorem PT{h:Heap}{x:AV}{want:Bool}{K:Nat→AV→Option R}{KL:AV→Option R}(hK:∀v y,KL v=some y→uz fun m=>K m v=some y){r:R}(he:uH h x want KL=some r):uz fun m=>uH h x want (K m)=some r:=by
 unfold uH at he ⊢
 split at he
 ·exact hK _ _ he
 ·rename_i xs hv
  cases rP:xs.isEmpty with
  |true =>
   simp only[rP,cond_true]at he ⊢
   have h1:=oo he
   exact(uz.all _ fun j hj=>hK _ _ (h1 j hj)).imp fun m hm=>mT (by decide) hm
  |false =>
   simp only[rP,cond_false]at he ⊢
   exact hK _ _ he
 ·cases he
theorem A6{A:Nat→FT}{L:FT}(hA:To A L){rid:Nat}{draw:Bool}{ops:Array Oper}{b:Array Nat}{K:Nat→St→Option R}{KL:St→Option R}(hK:ToK K KL) :
  ∀(l:List (Nat×Oper)) (st:St) (r:R),bD P Eqs Sg L rid draw ops b l st KL=some r→uz fun m=>bD P Eqs Sg (A m) rid draw ops b l st (K m)=some r
 |[],st,r,he=>hK st r (by simpa only[bD] using he)
 |(i,o)::l,st,r,he=>by
  have ih:=A6 hA (rid:=rid) (draw:=draw) (ops:=ops) (b:=b) hK l
  have run:∀st:St,(match (if draw then none else oY P (opId rid i) st o) with
    |some eJ=>bD P Eqs Sg L rid draw ops b l eJ KL
    |none=>match (if draw then none else uG o) with
    |some x=>k0 st.heap (ρ st.tmps x) fun v h=>bD P Eqs Sg L rid draw ops b l (({ st with heap:=h }:St).put o.dst v) KL
    |none=>match (if draw then none else isNil P o) with
    |some (x,want)=>uH st.heap (ρ st.tmps x) want fun v=>bD P Eqs Sg L rid draw ops b l (st.put o.dst v) KL
    |none=>if draw then cU P Eqs Sg L (opId rid i) (gX (ahead rid (b.getD i 0) st.heap) (gY ops b i st.tmps o)) st.tmps o fun e =>
     if(gQ true rid ops b i (b.getD i 0) (gR (gY ops b i st.tmps o) (ahead rid (b.getD i 0) st.heap) e)&&nm (gY ops b i st.tmps o) e)=true then
      bD P Eqs Sg L rid draw ops b l ({ st with heap:=match gR (gY ops b i st.tmps o) (ahead rid (b.getD i 0) st.heap) e with | .wr _ h=>h|e=>e.h st.heap }.put o.dst e.v) KL else none
     else cU P Eqs Sg L (opId rid i) st.heap st.tmps o fun e =>
     if gQ false rid ops b i (2 ^ i-1) e then bD P Eqs Sg L rid draw ops b l ({ st with heap:=match e with | .wr _ h=>h|e=>e.h st.heap }.put o.dst e.v) KL else none)=some r →
    uz fun m=>(match (if draw then none else oY P (opId rid i) st o) with
    |some eJ=>bD P Eqs Sg (A m) rid draw ops b l eJ (K m)
    |none=>match (if draw then none else uG o) with
    |some x=>k0 st.heap (ρ st.tmps x) fun v h=>bD P Eqs Sg (A m) rid draw ops b l (({ st with heap:=h }:St).put o.dst v) (K m)
    |none=>match (if draw then none else isNil P o) with
    |some (x,want)=>uH st.heap (ρ st.tmps x) want fun v=>bD P Eqs Sg (A m) rid draw ops b l (st.put o.dst v) (K m)
    |none=>if draw then cU P Eqs Sg (A m) (opId rid i) (gX (ahead rid (b.getD i 0) st.heap) (gY ops b i st.tmps o)) st.tmps o fun e =>
     if(gQ true rid ops b i (b.getD i 0) (gR (gY ops b i st.tmps o) (ahead rid (b.getD i 0) st.heap) e)&&nm (gY ops b i st.tmps o) e)=true then
      bD P Eqs Sg (A m) rid draw ops b l ({ st with heap:=match gR (gY ops b i st.tmps o) (ahead rid (b.getD i 0) st.heap) e with | .wr _ h=>h|e=>e.h st.heap }.put o.dst e.v) (K m) else none
     else cU P Eqs Sg (A m) (opId rid i) st.heap st.tmps o fun e =>
     if gQ false rid ops b i (2 ^ i-1) e then bD P Eqs Sg (A m) rid draw ops b l ({ st with heap:=match e with | .wr _ h=>h|e=>e.h st.heap }.put o.dst e.v) (K m) else none)=some r:=by
   intro st h
   split at h
   ·rename_i eJ om
    try simp only[om]
    exact ih _ r h
   rename_i om
   split at h
   ·rename_i x DK
    try simp only[om,DK]
    exact JU (fun v h y hy=>ih _ y hy) h
   rename_i DK
   split at h
   ·rename_i x want ZC
    try simp only[om,DK,ZC]
    exact PT (fun v y hy=>ih _ y hy) h
   rename_i ZC
   try simp only[om,DK,ZC]
   cases draw with
   |true =>
    simp only[if_true]at h ⊢
    rw[lu]at h
    obtain⟨e,h1,h2⟩:=Option.bind_eq_some_iff.1 h
    by_cases hc:(gQ true rid ops b i (b.getD i 0) (gR (gY ops b i st.tmps o) (ahead rid (b.getD i 0) st.heap) e)&&nm (gY ops b i st.tmps o) e)=true
    ·rw[if_pos hc]at h2
     refine(G8 hA h1).and (ih _ r h2) fun m h3 h4=>?_
     rw[lu,h3,Option.bind_some,if_pos hc]
     exact h4
    ·rw[if_neg hc]at h2;cases h2
   |false =>
    simp only[Bool.false_eq_true,if_false]at h ⊢
    rw[lu]at h
    obtain⟨e,h1,h2⟩:=Option.bind_eq_some_iff.1 h
    by_cases hc:gQ false rid ops b i (2 ^ i-1) e=true
    ·rw[if_pos hc]at h2
     refine(G8 hA h1).and (ih _ r h2) fun m h3 h4=>?_
     rw[lu,h3,Option.bind_some,if_pos hc]
     exact h4
    ·rw[if_neg hc]at h2;cases h2
  simp only[bD]at he ⊢
  split at he
  ·rename_i hg
   try simp only[hg]
   exact run _ he
  ·rename_i j want hg
   try simp only[hg]
   split at he
   ·cases he
   ·rename_i d hd
    try simp only[hd]
    split at he
    ·rename_i t ht
     try simp only[ht]
     cases t<;>cases want<;>simp only[cond_true,cond_false,if_true,if_false,Bool.false_eq_true]at he ⊢<;>first|exact run _ he|exact ih _ r he
    ·rename_i ht
     try simp only[ht]
     exact ih _ r he
    ·cases he
theorem C3{A:Nat→FT}{L:FT}(hA:To A L){n rid:Nat}{ops:Array Oper}{draw:Bool}{K:Nat→St→Option R}{KL:St→Option R}(hK:ToK K KL){st:St}{r:R}
  (he:ir P Eqs Sg L n rid ops draw st KL=some r):uz fun m=>ir P Eqs Sg (A m) n rid ops draw st (K m)=some r:=by
 unfold ir at he ⊢
 by_cases hc:((ops.all fun o=>iq n o)&&(!draw || (uD ops (if draw then Region.before ops else #[])&&(Ad ops (if draw then Region.before ops else #[])&&b7 (ops.toList.filterMap (·.dst)))))&&decide (ops.size≤128))=true
 ·dsimp only at he ⊢
  rw[if_pos hc]at he
  refine(A6 hA hK _ _ r he).imp fun m hm=>?_
  rw[if_pos hc]
  exact hm
 ·dsimp only at he
  rw[if_neg hc]at he;cases he
theorem gL{A:Nat→FT}{L:FT}(hA:To A L){n:Nat}{ann:Nat→Option Shape}{J:Nat→(sh:Shape)→List Item→sh.T→Option R}{JL:(sh:Shape)→List Item→sh.T→Option R}(hJ:ToJ J JL){ret:St→Option R} :
  ∀(fu:Nat) (items:List Item) (st:St) (r:R),aA P Eqs Sg L n ann JL ret fu items st=some r→uz fun m=>aA P Eqs Sg (A m) n ann (J m) ret fu items st=some r
 |0,items,st,r,he=>by cases items<;>simp only[aA]at he<;>cases he
 |fu+1,[],st,r,he=>.now fun m=>by simpa only[aA] using he
 |fu+1,it::M3,st,r,he=>by
  have ih:=gL hA (n:=n) (ann:=ann) hJ (ret:=ret) fu
  cases it with
  |inBlock id=>simp only[aA]at he ⊢;exact ih _ _ _ he
  |inScope c=>simp only[aA]at he ⊢;exact ih _ _ _ he
  |inLoop c =>
   simp only[aA]at he ⊢
   split at he
   ·cases he
   ·rename_i sh hsh
    try simp only[hsh]
    split at he
    ·rename_i x hx
     try simp only[hx]
     exact hJ _ _ _ _ he
    ·cases he
  |code c =>
   cases c with
   |cond c x y =>
    simp only[aA]at he ⊢
    split at he
    ·rename_i t ht
     try simp only[ht]
     cases t<;>simp only[cond_true,cond_false]at he ⊢<;>exact ih _ _ _ he
    ·cases he
   |exit id =>
    simp only[aA]at he ⊢
    split at he
    ·rename_i k' hk
     try simp only[hk]
     exact ih _ _ _ he
    ·cases he
   |ret=>exact .now fun m=>by simpa only[aA] using he
   |region id ops draw =>
    simp only[aA]at he ⊢
    exact C3 hA (K:=fun m eJ=>aA P Eqs Sg (A m) n ann (J m) ret fu M3 eJ) (fun st y h=>ih M3 st y h) he
   |skip=>simp only[aA]at he ⊢;exact ih _ _ _ he
   |label l=>simp only[aA]at he ⊢;exact ih _ _ _ he
   |seq x y=>simp only[aA]at he ⊢;exact ih _ _ _ he
   |block id c=>simp only[aA]at he ⊢;exact ih _ _ _ he
   |scope c=>simp only[aA]at he ⊢;exact ih _ _ _ he
   |loop c=>simp only[aA]at he ⊢;exact ih _ _ _ he
   |_=>simp only[aA]at he;cases he
  |_=>simp only[aA]at he;cases he
section
variable {An:FuncId→Nat→Option Shape} {G:(f:FuncId)→(g:aM)→Option (g.A→Option g.B)}
def Xo(F F':FT):Prop:=∀f g x y,F f g x=some y→F' f g x=some y
theorem Xo.to{F F':FT}(h:Xo F F'):To (fun _=>F') F:=fun f g x y hy=>.now fun _=>h f g x y hy
theorem uz.get{p:Prop}(h:uz fun _=>p):p:=by obtain⟨m,hm⟩:=h;exact hm m (Nat.le_refl _)
theorem oq{F F':FT}(h:Xo F F'){f:FuncId}{g:aM}{fn:Func}:∀(n n':Nat) (sh:Shape) (k:List Item) (x:sh.T) (y:g.B),n≤n'→mE P Eqs Sg An F f g fn n sh k x=some y→mE P Eqs Sg An F' f g fn n' sh k x=some y
 |0,_,_,_,_,_,_,hx=>by simp only[mE]at hx;cases hx
 |n+1,0,_,_,_,_,hn,_=>by omega
 |n+1,n'+1,sh,k,x,y,hn,hx=>by
  cases k with
  |nil=>simp only[mE]at hx;cases hx
  |cons it k =>
   cases it with
   |inLoop c =>
    simp only[mE]at hx ⊢
    exact(gL h.to (J:=fun _=>mE P Eqs Sg An F' f g fn n') (JL:=mE P Eqs Sg An F f g fn n) (fun sh k x y hy=>.now fun _=>oq h n n' sh k x y (by omega) hy) _ _ _ _ hx).get
   |_=>simp only[mE]at hx;cases hx
theorem M4{F F':FT}(h:Xo F F'){f:FuncId}{g:aM}{n n':Nat}{x:g.A}{y:g.B}(hn:n≤n')(hx:Jh P Eqs Sg An F f g n x=some y):Jh P Eqs Sg An F' f g n' x=some y:=by
 unfold Jh at hx ⊢
 split at hx
 ·cases hx
 ·rename_i fn c hb
  try simp only[hb]
  split at hx
  ·rename_i hc
   simp only[if_pos hc]
   exact(gL h.to (J:=fun _=>mE P Eqs Sg An F' f g fn n') (JL:=mE P Eqs Sg An F f g fn n) (fun sh k x y hy=>.now fun _=>oq h n n' sh k x y hn hy) _ _ _ _ hx).get
  ·cases hx
theorem zB:∀m,Xo (Fn P Eqs Sg An G m) (Fn P Eqs Sg An G (m+1))
 |0,f,g,x,y,hx=>by
  simp only[Fn]at hx ⊢
  split at hx
  ·rename_i u hu;(try simp only[hu]);exact hx
  ·cases hx
 |m+1,f,g,x,y,hx=>by
  rw[Fn]at hx ⊢
  split at hx
  ·rename_i u hu;(try simp only[hu]);exact hx
  ·rename_i hu
   try simp only[hu]
   exact M4 (zB m) (Nat.le_succ m) hx
theorem zF{m m':Nat}(h:m≤m'):Xo (Fn P Eqs Sg An G m) (Fn P Eqs Sg An G m'):=by
 induction h with
 |refl=>exact fun _ _ _ _ h=>h
 |step _ ih=>exact fun f g x y hx=>zB _ f g x y (ih f g x y hx)
variable (P Eqs Sg An G) in
open Classical in
noncomputable def Fix:FT:=fun f g x=>if h:∃m y,Fn P Eqs Sg An G m f g x=some y then some (Classical.choose (Classical.choose_spec h)) else none
theorem E4:To (Fn P Eqs Sg An G) (Fix P Eqs Sg An G):=fun f g x y hy=>by
 unfold Fix at hy
 split at hy
 ·rename_i h
  cases hy
  exact⟨Classical.choose h,fun m' hm=>zF hm _ _ _ _ (Classical.choose_spec (Classical.choose_spec h))⟩
 ·cases hy
theorem PU{m:Nat}{f:FuncId}{g:aM}{x:g.A}{y:g.B}(h:Fn P Eqs Sg An G m f g x=some y):Fix P Eqs Sg An G f g x=some y:=by
 have he:∃m y,Fn P Eqs Sg An G m f g x=some y:=⟨m,y,h⟩
 cases hy:Fix P Eqs Sg An G f g x with
 |none=>unfold Fix at hy;rw[dif_pos he]at hy;cases hy
 |some y' =>
  obtain⟨m1,h1⟩:=E4 f g x y' hy
  have h2:=h1 (max m m1) (by omega)
  have h3:=zF (show m≤max m m1 by omega) f g x y h
  rw[h2]at h3
  exact h3
variable (P Eqs Sg An G) in
open Classical in
noncomputable def Lp(f:FuncId)(g:aM)(fn:Func)(sh:Shape)(k:List Item)(x:sh.T):Option g.B :=
 if h:∃m y,mE P Eqs Sg An (Fn P Eqs Sg An G m) f g fn m sh k x=some y then some (Classical.choose (Classical.choose_spec h)) else none
theorem PV{f:FuncId}{g:aM}{fn:Func}:ToJ (fun m=>mE P Eqs Sg An (Fn P Eqs Sg An G m) f g fn m) (Lp P Eqs Sg An G f g fn):=fun sh k x y hy=>by
 unfold Lp at hy
 split at hy
 ·rename_i h
  cases hy
  exact⟨Classical.choose h,fun m' hm=>oq (zF hm) _ _ _ _ _ _ hm (Classical.choose_spec (Classical.choose_spec h))⟩
 ·cases hy
theorem ZK{m:Nat}{f:FuncId}{g:aM}{fn:Func}{sh:Shape}{k:List Item}{x:sh.T}{y:g.B}(h:mE P Eqs Sg An (Fn P Eqs Sg An G m) f g fn m sh k x=some y):Lp P Eqs Sg An G f g fn sh k x=some y:=by
 have he:∃m y,mE P Eqs Sg An (Fn P Eqs Sg An G m) f g fn m sh k x=some y:=⟨m,y,h⟩
 cases hy:Lp P Eqs Sg An G f g fn sh k x with
 |none=>unfold Lp at hy;rw[dif_pos he]at hy;cases hy
 |some y' =>
  obtain⟨m1,h1⟩:=PV sh k x y' hy
  have h2:=h1 (max m m1) (by omega)
  have h3:=oq (zF (show m≤max m m1 by omega)) m (max m m1) sh k x y (by omega) h
  exact h2.symm.trans h3
theorem La{f:FuncId}{g:aM}{x:g.A}{y:g.B}{fn:Func}{c:Code}(hG:G f g=none)(hb:body P (f%1000)=some (fn,c))(hc:(decide (g.ps.length≤fn.ntmps)&&decide (g.bs.length≤8))=true)
  (h:aA P Eqs Sg (Fix P Eqs Sg An G) fn.ntmps (An f) (Lp P Eqs Sg An G f g fn) (qO P g fn) fuel [.code c] (entry g x)=some y):Fix P Eqs Sg An G f g x=some y:=by
 obtain⟨m,hm⟩:=gL (E4 (P:=P) (Eqs:=Eqs) (Sg:=Sg) (An:=An) (G:=G)) (PV (f:=f) (g:=g) (fn:=fn)) _ _ _ _ h
 refine PU (m:=m+1) ?_
 simp only[Fn,hG]
 unfold Jh
 simp only[hb,if_pos hc]
 exact hm m (Nat.le_refl _)
theorem DS{f:FuncId}{g:aM}{x:g.A}{y:g.B}{u:g.A→Option g.B}(hG:G f g=some u)(h:u x=some y):Fix P Eqs Sg An G f g x=some y:=by
 refine PU (m:=0) ?_
 simp only[Fn,hG]
 exact h
theorem PW{f:FuncId}{g:aM}{fn:Func}{sh:Shape}{c:Code}{k:List Item}{x:sh.T}{y:g.B}
  (h:aA P Eqs Sg (Fix P Eqs Sg An G) fn.ntmps (An f) (Lp P Eqs Sg An G f g fn) (qO P g fn) fuel (.code c::.inLoop c::k) (ao sh x)=some y):Lp P Eqs Sg An G f g fn sh (.inLoop c::k) x=some y:=by
 obtain⟨m,hm⟩:=gL (E4 (P:=P) (Eqs:=Eqs) (Sg:=Sg) (An:=An) (G:=G)) (PV (f:=f) (g:=g) (fn:=fn)) _ _ _ _ h
 refine ZK (m:=m+1) ?_
 simp only[mE]
 refine(gL (L:=Fn P Eqs Sg An G m) (Xo.to (zB m)) (J:=fun _=>mE P Eqs Sg An (Fn P Eqs Sg An G (m+1)) f g fn m) (JL:=mE P Eqs Sg An (Fn P Eqs Sg An G m) f g fn m) (fun sh k x y hy=>.now fun _=>oq (zB m) m m sh k x y (Nat.le_refl _) hy) _ _ _ _ (hm m (Nat.le_refl _))).get
theorem zG(hX:∀f g u,Sg f=some g→g.x=some u→iA P (f%1000) u)(CL:∀t k,Eqs t=some k→lN P t k)(MO:∀f g,Sg f=some g→jq P (f%1000))(hm:P.follows .mixedOrders=true)
  (hG:∀f g u x y,Sg f=some g→G f g=some u→u x=some y→DF P f g x y) {f:FuncId} {g:aM} {x:g.A} {y:g.B} (hs:Sg f=some g) (h:Fix P Eqs Sg An G f g x=some y):DF P f g x y:=by
 obtain⟨m,TS⟩:=E4 f g x y h
 exact G7 hX CL MO hm hG m f g x y hs (TS m (Nat.le_refl _))
end
end Go.Vs
namespace Go.Vs
open Go.Proofs
abbrev ae:=((Int×Int)×Int)
abbrev ID:=(Int×Int)
abbrev ah:=(ID×((List ae)×(ByteArray×Int)))
abbrev ai:=(ID×(ByteArray×Int))
abbrev aj:=((List ah)×(List ai))
abbrev az:=(ae×ae)
abbrev StateT:=(aj×(List az))
abbrev mF:=(ID×ae)
abbrev bj:=(Int×(ID×(ID×(ID×(mF×(mF×(Bool×(ByteArray×Int))))))))
abbrev aW:=((List ah)×((List ai)×((List az)×Unit)))
abbrev lI{α:Type}(l:List α):Int:=((l.length:Nat):Int)
abbrev wI(n:Int):Int:=IntKind.wrap .i64 n
abbrev OI:ID:=(0,0)
abbrev OD:ae:=(OI,0)
abbrev OC:mF:=(OI,OD)
abbrev OB:ByteArray:=⟨#[]⟩
abbrev OS:StateT:=(([],[]),[])
abbrev OW:aW:=([],([],([],())))
abbrev k13:K:=(.pair .str (.int .u64))
abbrev gV:K:=(.pair (.int .i64) (.int .i64))
abbrev k68:K:=(.pair .str (.pair (.int .i64) .bool))
abbrev bm:K:=(.pair gV (.int .i64))
abbrev k7:K:=(.pair (.int .i64) (.pair (.int .i64) (.pair .bool (.int .u8))))
abbrev dR:K:=(.pair gV (.pair .str (.int .i64)))
abbrev Oo:K:=(.pair gV bm)
abbrev cX:K:=(.pair bm bm)
abbrev dn:K:=(.pair gV (.pair (.sl bm) (.pair .str (.int .i64))))
abbrev dk:K:=(.pair (.sl dn) (.sl dR))
abbrev qg:K:=(.pair dk (.sl cX))
abbrev jE:K:=(.pair (.int .i64) (.pair gV (.pair gV (.pair gV (.pair Oo (.pair Oo (.pair .bool (.pair .str (.int .i64)))))))))
abbrev k75:K:=(.one (.sl jE))
def pI(xs:List ah)(ys:List ai):Bool:=decide (xs.length≤50000000)&&(decide (ys.length≤50000000)&&xs.all fun v=>decide (v.2.1.length≤50000000))
def E5(h:Heap)(id:Nat):List AV→Option (Bool×bI)
 |[.agg [.bH a,.bH b]]=>match dU h (.row 52 dn) (.bH a),dU h (.row 118 dR) (.bH b) with
  |some xs,some ys=>if a=b then none else some (pI xs ys,.new (.agg [.bH (id+128),.bH (id+129)]) [(id+128,.own (.row 52 dn) xs),(id+129,.own (.row 118 dR) ys)])
  |_,_=>none
 |_=>none
def M5:aM:={ ps:=[.val qg,.val jE],bs:=[],rs:=[.val qg,.val (.int .i64)] }
def PX:aM:={ ps:=[.val qg,.val jE],bs:=[],rs:=[.val qg,.val (.int .i64)] }
def qp:aM:={ ps:=[.val dk,.val gV],bs:=[],rs:=[.val dn,.val .bool] }
def yT:aM:={ ps:=[.val gV],bs:=[],rs:=[.val .bool] }
def tZ:aM:={ ps:=[.val dk,.val bm],bs:=[],rs:=[.val gV,.val .bool] }
def wP:aM:={ ps:=[.val dk,.val gV],bs:=[],rs:=[.val dR,.val .bool] }
def G9:aM:={ ps:=[.val dk,.val bm],bs:=[],rs:=[.val (.sl bm)] }
def C4:aM:={ ps:=[.val bm],bs:=[],rs:=[.val bm] }
def q9:aM:={ ps:=[.val (.sl bm),.val bm],bs:=[],rs:=[.val (.int .i64)] }
def M6:aM:={ ps:=[.val (.sl bm),.val bm],bs:=[],rs:=[.val bm,.val .bool] }
def wQ:aM:={ ps:=[.val .str],bs:=[],rs:=[.val .bool] }
def yU:aM:={ ps:=[.val (.int .i64)],bs:=[],rs:=[.val .bool] }
def Hc:aM:={ ps:=[.val dk],bs:=[],rs:=[.own (.row 50 (.sl bm))] }
def Hd:aM:={ ps:=[.val dk],bs:=[],rs:=[.val (.int .i64)] }
def C5:aM:={ ps:=[.val dk],bs:=[],rs:=[.agg [.own (.row 52 dn),.own (.row 118 dR)]] }
def E6:aM:={ ps:=[.val dk],bs:=[],rs:=[.val (.int .i64)] }
def M7:aM:={ ps:=[.val jE],bs:=[],rs:=[.val (.int .i64)] }
def JV:aM:={ ps:=[.val qg,.val (.sl jE)],bs:=[],rs:=[.val qg,.val (.int .i64)] }
def M8:aM:={ ps:=[.val jE],bs:=[],rs:=[.val (.int .i64)] }
def E7:aM:={ ps:=[.val dk,.val dn],bs:=[],rs:=[.val dk] }
def pJ:aM:={ ps:=[.val dk,.val gV,.val gV],bs:=[],rs:=[.val dk] }
def PY:aM:={ ps:=[.val qg,.val jE],bs:=[],rs:=[.val qg,.val (.int .i64)] }
def PZ:aM:={ ps:=[.val qg,.val jE],bs:=[],rs:=[.val qg,.val (.int .i64)] }
def P0:aM:={ ps:=[.val qg,.val jE],bs:=[],rs:=[.val qg,.val (.int .i64)] }
def yV:aM:={ ps:=[.val qg,.val jE],bs:=[],rs:=[.val qg,.val (.int .i64)] }
def A7:aM:={ ps:=[.val qg,.val jE],bs:=[],rs:=[.val qg,.val (.int .i64)] }
def M9:aM:={ ps:=[.val dk,.val bm],bs:=[],rs:=[.val bm,.val .bool] }
def C6:aM:={ ps:=[.val dk,.val gV],bs:=[],rs:=[.val (.int .i64)] }
def sO:aM:={ ps:=[.val dk],bs:=[],rs:=[.own (.row 3 (.int .i64))] }
def He:aM:={ ps:=[.val (.sl bm),.val (.sl bm)],bs:=[],rs:=[.val .bool] }
def E8:aM:={ ps:=[.val dk],bs:=[],rs:=[.own (.row 33 bm)] }
def Hf:aM:={ ps:=[.val dk],bs:=[],rs:=[.agg [.own (.row 52 dn),.own (.row 118 dR)]] }
def JW:aM:={ ps:=[.val (.sl cX)],bs:=[],rs:=[.own (.row 54 cX)] }
def JX:aM:={ ps:=[.val bm,.val bm],bs:=[],rs:=[.val (.int .i64)] }
def qq:aM:={ ps:=[.val dk],bs:=[],rs:=[.val (.int .i64)] }
def E9:aM:={ ps:=[.val dk],bs:=[],rs:=[.val (.int .i64)] }
def P1:aM:={ ps:=[.val jE],bs:=[],rs:=[.val jE,.val (.int .i64)] }
def A8:aM:={ ps:=[.ref,.val jE],bs:=[.box 155 [.own (.row 52 dn),.own (.row 118 dR),.val (.sl cX)]],rs:=[.val (.int .i64)] }
def Na:aM:={ ps:=[.val jE],bs:=[],rs:=[.val jE] }
def Nb:aM:={ ps:=[.val Oo],bs:=[],rs:=[.val .bool] }
def Fa:aM:={ ps:=[.val gV,.val gV],bs:=[],rs:=[.val (.int .i64)] }
def Nc:aM:={ ps:=[.val qg,.val Oo],bs:=[],rs:=[.val Oo,.val (.int .i64)] }
def yW:aM:={ ps:=[.val dk,.val dR],bs:=[],rs:=[.val dk] }
def yX:aM:={ ps:=[.val dk,.val Oo,.val bm],bs:=[],rs:=[.val dk] }
def yY:aM:={ ps:=[.val (.sl cX),.val cX],bs:=[],rs:=[.val (.sl cX)] }
def Nd:aM:={ ps:=[.val dk,.val bm],bs:=[],rs:=[.val bm] }
def Ng:aM:={ ps:=[.val dk,.val bm],bs:=[],rs:=[.val dk] }
def Hg:aM:={ ps:=[.val dk,.val bm,.val bm],bs:=[],rs:=[.val dk] }
def pK:aM:={ ps:=[.val (.sl bm)],bs:=[],rs:=[.own (.row 33 bm)] }
def P2:aM:={ ps:=[.val dk,.val bm],bs:=[],rs:=[.val bm,.val .bool] }
def Nh:aM:={ ps:=[.val (.sl dn)],bs:=[],rs:=[.own (.row 52 dn)] }
def Ni:aM:={ ps:=[.val (.sl dR)],bs:=[],rs:=[.own (.row 118 dR)] }
def yZ:aM:={ ps:=[.val (.sl bm)],bs:=[],rs:=[.own (.row 33 bm)] }
def y0:aM:={ ps:=[.val dk],bs:=[],rs:=[.val (.sl gV)] }
def vg:aM:={ ps:=[.val (.sl gV)],bs:=[],rs:=[.val .bool] }
def la:aM:={ ps:=[.val dk],bs:=[],rs:=[.val .bool] }
def Fb:aM:={ ps:=[.val dk],bs:=[],rs:=[.val (.int .i64),.val (.int .i64),.val (.int .i64),.val (.int .i64)] }
def rf:aM:={ ps:=[.val gV],bs:=[],rs:=[.val .bool] }
def C7:aM:={ ps:=[.val Oo],bs:=[],rs:=[.val .bool] }
def wR:aM:={ ps:=[.val .str],bs:=[],rs:=[.val .bool] }
def Hh:aM:={ ps:=[.val (.int .i64)],bs:=[],rs:=[.val .bool] }
def Hi:aM:={ ps:=[.ref,.val dn],bs:=[.box 155 [.own (.row 52 dn),.own (.row 118 dR),.val (.sl cX)]],rs:=[.val (.int .i64)] }
def P3:aM:={ ps:=[.ref,.val jE],bs:=[.box 155 [.own (.row 52 dn),.own (.row 118 dR),.val (.sl cX)]],rs:=[.val (.int .i64)] }
def ou:aM:={ ps:=[.ref,.val jE],bs:=[.box 155 [.own (.row 52 dn),.own (.row 118 dR),.val (.sl cX)]],rs:=[.val (.int .i64)] }
def A9:aM:={ ps:=[.ref,.val jE],bs:=[.box 155 [.own (.row 52 dn),.own (.row 118 dR),.val (.sl cX)]],rs:=[.val (.int .i64)] }
def zc:aM:={ ps:=[.ref,.val jE],bs:=[.box 155 [.own (.row 52 dn),.own (.row 118 dR),.val (.sl cX)]],rs:=[.val (.int .i64)] }
def rh:aM:={ ps:=[.ref,.val jE],bs:=[.box 155 [.own (.row 52 dn),.own (.row 118 dR),.val (.sl cX)]],rs:=[.val (.int .i64)] }
def P4:aM:={ ps:=[.ref,.val jE],bs:=[.box 155 [.own (.row 52 dn),.own (.row 118 dR),.val (.sl cX)]],rs:=[.val (.int .i64)] }
def P5:aM:={ ps:=[.val bm],bs:=[],rs:=[.val .bool] }
def Hj:aM:={ ps:=[.val qg,.val bm],bs:=[],rs:=[.val bm] }
def C8:aM:={ ps:=[.val dk,.val gV,.val (.sl bm)],bs:=[],rs:=[.val dk] }
def yr:aM:={ ps:=[.val (.sl bm),.val bm,.val bm],bs:=[],rs:=[.own (.row 33 bm)] }
def tg:aM:={ ps:=[.val (.sl cX),.val bm],bs:=[],rs:=[.val bm,.val .bool] }
def yu:aM:={ ps:=[.val (.sl bm),.val bm],bs:=[],rs:=[.own (.row 33 bm)] }
def Hk:aM:={ ps:=[.val (.sl bm),.val bm,.val bm],bs:=[],rs:=[.own (.row 33 bm)] }
def Hl:aM:={ ps:=[.val (.sl bm),.val bm],bs:=[],rs:=[.val bm,.val .bool] }
def ov:aM:={ ps:=[.val dk,.val bm],bs:=[],rs:=[.val (.int .i64)] }
def Hm:aM:={ ps:=[.val bm],bs:=[],rs:=[.val .bool] }
def qh:aM:={ ps:=[.ref,.val gV],bs:=[.box 155 [.own (.row 52 dn),.own (.row 118 dR),.val (.sl cX)]],rs:=[.val (.int .i64),.val .bool] }
def VL:aM:={ ps:=[],bs:=[],rs:=[],x:=some (OM 52 dn) }
def VM:aM:={ ps:=[],bs:=[],rs:=[],x:=some (TC 52 dn) }
def yv:aM:={ ps:=[.ref,.val gV],bs:=[.box 155 [.own (.row 52 dn),.own (.row 118 dR),.val (.sl cX)]],rs:=[.val (.int .i64)] }
def Ba:aM:={ ps:=[.val gV],bs:=[],rs:=[.val bm,.val bm] }
def Ho:aM:={ ps:=[.val qg,.val Oo],bs:=[],rs:=[.val Oo,.val (.int .i64)] }
def Bb:aM:={ ps:=[.val (.sl bm),.val bm,.val bm],bs:=[],rs:=[.own (.row 33 bm)] }
def Bc:aM:={ ps:=[.val dk],bs:=[],rs:=[.val .bool] }
def mV:aM:={ ps:=[.ref,.val gV],bs:=[.box 155 [.own (.row 52 dn),.own (.row 118 dR),.val (.sl cX)]],rs:=[.val (.int .i64),.val .bool] }
def Be:aM:={ ps:=[.ref,.val bm,.val bm],bs:=[.box 155 [.own (.row 52 dn),.own (.row 118 dR),.val (.sl cX)]],rs:=[] }
def Bf:aM:={ ps:=[.ref,.val bm],bs:=[.box 155 [.own (.row 52 dn),.own (.row 118 dR),.val (.sl cX)]],rs:=[.val bm] }
def l8:aM:={ ps:=[.ref,.val bm],bs:=[.box 155 [.own (.row 52 dn),.own (.row 118 dR),.val (.sl cX)]],rs:=[.eU 0 [(0,5,0)]] }
def Bg:aM:={ ps:=[.val (.sl bm),.val bm],bs:=[],rs:=[.own (.row 33 bm)] }
def VN:aM:={ ps:=[],bs:=[],rs:=[],x:=some (TC 118 dR) }
def th:aM:={ ps:=[.val (.sl bm),.val bm,.val bm],bs:=[],rs:=[.own (.row 33 bm)] }
def ow:aM:={ ps:=[.val bm],bs:=[],rs:=[.val bm] }
def ri:aM:={ ps:=[.val (.sl bm)],bs:=[],rs:=[.own (.row 33 bm)] }
def Hq:aM:={ ps:=[.ref,.val jE],bs:=[.box 155 [.own (.row 52 dn),.own (.row 118 dR),.val (.sl cX)]],rs:=[.eU 0 [(0,5,3),(1,4,2)],.eU 0 [(0,5,4),(1,4,3)]] }
def DT:aM:={ ps:=[.val dn,.val gV],bs:=[],rs:=[.val (.int .i64)] }
def Bh:aM:={ ps:=[.val gV,.val gV],bs:=[],rs:=[.val (.int .i64)] }
def VO:aM:={ ps:=[],bs:=[],rs:=[],x:=some (OM 118 dR) }
def ti:aM:={ ps:=[.val dk,.val gV],bs:=[],rs:=[.val dn,.val .bool] }
def yw:aM:={ ps:=[.val qg,.val bm],bs:=[],rs:=[.val bm] }
def vh:aM:={ ps:=[.val (.sl bm),.val bm],bs:=[],rs:=[.val .bool] }
def l9:aM:={ ps:=[.val (.sl bm),.val bm],bs:=[],rs:=[.val (.int .i64)] }
def ox:aM:={ ps:=[.val (.sl (.sl bm))],bs:=[],rs:=[.own (.row 33 bm)] }
def Hr:aM:={ ps:=[.val dk],bs:=[],rs:=[.val (.int .i64)] }
def DU:aM:={ ps:=[.val dR,.val gV],bs:=[],rs:=[.val (.int .i64)] }
def Hs:aM:={ ps:=[.val (.sl cX),.val cX],bs:=[],rs:=[.own (.row 54 cX)] }
def Bi:aM:={ ps:=[.val (.sl bm),.val bm],bs:=[],rs:=[.val bm,.val .bool] }
def DV:aM:={ ps:=[.val bm,.val bm],bs:=[],rs:=[.val (.int .i64)] }
def oy:aM:={ ps:=[.val (.sl (.sl bm))],bs:=[],rs:=[.own (.row 33 bm)] }
def vj:aM:={ ps:=[.val (.sl (.int .i64))],bs:=[],rs:=[.val (.int .i64)] }
def Bj:aM:={ ps:=[.val (.int .i64),.val (.int .i64)],bs:=[],rs:=[.val (.int .i64)] }
def Ht:aM:={ ps:=[.val dn],bs:=[],rs:=[.val gV] }
def tj:aM:={ ps:=[.val dk,.val bm],bs:=[],rs:=[.val gV,.val .bool] }
def Hu:aM:={ ps:=[.val (.sl cX),.val bm],bs:=[],rs:=[.val bm,.val .bool] }
def Hv:aM:={ ps:=[.val dk],bs:=[],rs:=[.val (.int .i64),.val (.int .i64),.val (.int .i64),.val (.int .i64)] }
def DW:aM:={ ps:=[.val cX,.val bm],bs:=[],rs:=[.val (.int .i64)] }
def VP:aM:={ ps:=[],bs:=[],rs:=[],x:=some (OM 54 cX) }
def Bk:aM:={ ps:=[.val (.sl bm),.val bm,.val (.int .i64)],bs:=[],rs:=[.val bm,.val .bool] }
def VQ:aM:={ ps:=[],bs:=[],rs:=[],x:=some (KZ 33 bm) }
def Bl:aM:={ ps:=[.val (.int .i64)],bs:=[],rs:=[.val .bool] }
def Hw:aM:={ ps:=[.val cX,.ref],bs:=[.box 33 [.val (.int .i64),.val (.int .i64),.val (.int .i64)]],rs:=[.val .bool] }
def Hy:aM:={ ps:=[.val dn],bs:=[],rs:=[.val .bool] }
def yx:aM:={ ps:=[.val dk],bs:=[],rs:=[.own (.row 50 (.sl bm))] }
def yy:aM:={ ps:=[.val dk],bs:=[],rs:=[.val (.int .i64)] }
def vl:aM:={ ps:=[.val dk],bs:=[],rs:=[.own (.row 33 bm)] }
def VR:aM:={ ps:=[.val dk],bs:=[],rs:=[.own (.row 28 (.sl gV))] }
def DX:aM:={ ps:=[.val dk,.val bm],bs:=[],rs:=[.val bm,.val .bool] }
def ia:aM:={ ps:=[.val dk],bs:=[],rs:=[.own (.row 3 (.int .i64))] }
def yz:aM:={ ps:=[.val dk,.val bm],bs:=[],rs:=[.val bm,.val .bool] }
def Hz:aM:={ ps:=[.own,.val (.int .i64),.val (.int .i64)],bs:=[.own (.row 3 (.int .i64))],rs:=[] }
def rj:aM:={ ps:=[.own,.val (.int .i64)],bs:=[.own (.row 3 (.int .i64))],rs:=[.val (.int .i64)] }
def HA:aM:={ ps:=[.val (.sl bm),.val bm],bs:=[],rs:=[.val bm,.val .bool] }
def jt:aM:={ ps:=[.val (.sl dn),.val gV,.F9 207 0],bs:=[],rs:=[.val (.int .i64),.val .bool] }
def ju:aM:={ ps:=[.val (.sl dR),.val gV,.F9 214 0],bs:=[],rs:=[.val (.int .i64),.val .bool] }
def ky:aM:={ ps:=[.val (.sl bm),.F9 195 0],bs:=[],rs:=[.val bm] }
def kz:aM:={ ps:=[.val (.sl dn),.F9 109 0,.val gV],bs:=[],rs:=[.val dn,.val .bool] }
def jv:aM:={ ps:=[.val (.sl cX),.val bm,.F9 232 0],bs:=[],rs:=[.val (.int .i64),.val .bool] }
def jw:aM:={ ps:=[.val (.sl cX),.F9 245 1],bs:=[.box 33 [.val bm]],rs:=[.val (.int .i64)] }
def kA:aM:={ ps:=[.val (.sl dn),.F9 239 0],bs:=[],rs:=[.val (.int .i64)] }
def HB:aM:={ ps:=[],bs:=[],rs:=[],x:=some E5 }
def P6:aM:={ ps:=[],bs:=[],rs:=[] }
abbrev k98:K:=(.pair k75 gV)
abbrev k99:K:=(.pair qg (.pair (.int .i64) (.sl k75)))
abbrev jx:=(StateT×(Int×((List (List bj))×Unit)))
abbrev Q0:=((Bool×Unit)×Unit)
abbrev Q1:=((StateT×(Int×Unit))×Unit)
abbrev Q2:=((Int×Unit)×Unit)
abbrev Q3:=(((List bj)×Unit)×Unit)
abbrev Q4:=((StateT×Unit)×Unit)
abbrev Q5:=((aj×Unit)×Unit)
abbrev Q6:=(((List ae)×Unit)×Unit)
abbrev Q7:=((ah×(Bool×Unit))×Unit)
abbrev Q8:=(List bj)
abbrev Q9:=((Int×Unit)×(jx×Unit))
abbrev Ua:=((ai×(Bool×Unit))×Unit)
abbrev Fc:=((ae×Unit)×Unit)
abbrev JY:=((ae×(Bool×Unit))×Unit)
abbrev P7:=((ID×(Bool×Unit))×Unit)
abbrev JZ:=((Int×(Bool×Unit))×(aW×Unit))
abbrev Ub:=((StateT×(bj×Unit))×Unit)
abbrev Q16:=((StateT×((List bj)×Unit))×Unit)
abbrev Q17:=(((List (List bj))×Unit)×Unit)
abbrev VS:=(((List az)×Unit)×Unit)
abbrev P8:=((Int×Unit)×(aW×Unit))
abbrev Tn:=((aj×(ae×Unit))×Unit)
abbrev Uc:=(((List ae)×(ae×Unit))×Unit)
abbrev VT:=((bj×Unit)×(aW×Unit))
abbrev Q23:=((StateT×Unit)×((List (List bj))×Unit))
abbrev Q24:=(((List bj)×(Int×Unit))×Unit)
abbrev Q25:=(((List (List ae))×Unit)×Unit)
abbrev Q26:=((((List ah)×((List ai)×Unit))×Unit)×Unit)
abbrev Q27:=((mF×Unit)×Unit)
abbrev Q28:=((Int×(Int×Unit))×(jx×Unit))
abbrev Q29:=((StateT×((List (List bj))×Unit))×Unit)
abbrev ZL:=((aj×(ID×Unit))×Unit)
abbrev ZM:=(((Option ((Fin 1)×Nat))×Unit)×(aW×Unit))
abbrev Q32:=(Unit×(jx×Unit))
abbrev Q33:=((ae×(ae×Unit))×Unit)
abbrev Q34:=(((List ae)×(ae×(ae×Unit)))×Unit)
abbrev Q35:=((Int×Unit)×((List Int)×Unit))
abbrev Q36:=((StateT×(Int×Unit))×(jx×Unit))
abbrev Q37:=(((List Bool)×Unit)×((List (List bj))×Unit))
abbrev Q38:=((Bool×(Int×Unit))×(((StateT×Unit)×((bj×Unit)×(aW×(((List ah)×((List ai)×Unit))×Unit))))×Unit))
abbrev Q39:=((Int×Unit)×((aW×((ae×Unit)×((ae×Unit)×((ae×Unit)×Unit))))×Unit))
def akb(_:Heap)(id:Nat):List AV→Option (Bool×bI)
 |[]=>some (true,.new (.ref (id+128) 0 0 0) [(id+128,.box 100 (enc k99 (nR k99)))])
 |_=>none
def aiF(h:Heap)(id:Nat):List AV→Option (Bool×bI)
 |[.ref i 0 0 0]=>match Dl h i 100 with
  |some cs=>match dI k99 cs with
   |some x=>some (true,.new (.ref (id+128) 0 0 0) [(id+128,.box 100 (enc k99 x))])
   |none=>none
  |none=>none
 |_=>none
def vm:aM:={ ps:=[.val qg,.val jE],bs:=[],rs:=[.val .bool] }
def HC:aM:={ ps:=[],bs:=[],rs:=[.val .bool] }
def ma:aM:={ ps:=[.val qg],bs:=[],rs:=[.val .bool] }
def DY:aM:={ ps:=[.val qg,.val jE],bs:=[],rs:=[.own (.row 37 jE)] }
def tk:aM:={ ps:=[.val gV,.val .bool,.val .str,.val (.int .i64)],bs:=[],rs:=[.own (.row 37 jE)] }
def HD:aM:={ ps:=[.val dk,.val jE],bs:=[],rs:=[.own (.row 37 jE)] }
def oz:aM:={ ps:=[.val dk,.val jE],bs:=[],rs:=[.own (.row 37 jE)] }
def HE:aM:={ ps:=[.val dk,.val jE],bs:=[],rs:=[.own (.row 37 jE)] }
def Bm:aM:={ ps:=[.val dk,.val gV],bs:=[],rs:=[.val dR,.val .bool] }
def DZ:aM:={ ps:=[.val dk,.val bm,.val bm],bs:=[],rs:=[.val Oo] }
def mW:aM:={ ps:=[.val (.sl (.sl jE))],bs:=[],rs:=[.own (.row 37 jE)] }
def HF:aM:={ ps:=[.val dR],bs:=[],rs:=[.val gV] }
def kB:aM:={ ps:=[.val (.sl dR),.F9 138 0,.val gV],bs:=[],rs:=[.val dR,.val .bool] }
def VU:aM:={ ps:=[],bs:=[],rs:=[],x:=some (KZ 37 jE) }
def Nj:aM:={ ps:=[],bs:=[],rs:=[] }
def Nk:aM:={ ps:=[],bs:=[],rs:=[] }
def sgs:List (Nat×aM):=[(73,M5),(45,PX),(79,qp),(87,yT),(124,tZ),(92,wP),(192,G9),(121,C4),(144,q9),(148,M6),(91,wQ),(90,yU),(164,Hc),(165,Hd),(21,C5),(72,E6),(104,M7),(103,JV),(46,M8),(80,E7),(81,pJ),(82,PY),(83,PZ),(84,P0),(85,yV),(86,A7),(216,M9),(217,C6),(193,sO),(98,He),(191,E8),(96,Hf),(97,JW),(71,JX),(106,qq),(107,E9),(132,P1),(131,A8),(88,Na),(89,Nb),(105,Fa),(114,Nc),(115,yW),(116,yX),(117,yY),(118,Nd),(119,Ng),(120,Hg),(122,pK),(234,P2),(127,Nh),(128,Ni),(110,yZ),(133,y0),(134,vg),(135,la),(136,Fb),(159,rf),(160,C7),(161,wR),(162,Hh),(152,Hi),(153,P3),(154,ou),(155,A9),(156,zc),(157,rh),(158,P4),(123,P5),(143,Hj),(145,C8),(146,yr),(147,tg),(126,yu),(149,Hk),(248,Hl),(163,ov),(190,Hm),(175,qh),(176,VL),(177,VM),(178,yv),(179,Ba),(180,Ho),(181,Bb),(172,Bc),(182,mV),(183,Be),(184,Bf),(185,l8),(141,Bg),(186,VN),(187,th),(188,ow),(169,ri),(189,Hq),(207,DT),(208,Bh),(211,VO),(74,ti),(212,yw),(166,vh),(168,l9),(170,ox),(204,Hr),(214,DU),(215,Hs),(140,Bi),(195,DV),(196,oy),(218,vj),(219,Bj),(109,Ht),(139,tj),(230,Hu),(226,Hv),(232,DW),(233,VP),(167,Bk),(220,VQ),(235,Bl),(245,Hw),(239,Hy),(240,yx),(241,yy),(249,vl),(251,VR),(255,DX),(256,ia),(258,yz),(259,Hz),(260,rj),(261,HA),(208206,jt),(215213,ju),(196194,ky),(110108,kz),(233231,jv),(246244,jw),(240238,kA),(500096,HB),(900025,P6),(8,vm),(42,HC),(43,ma),(44,DY),(75,tk),(76,HD),(77,oz),(78,HE),(111,Bm),(112,DZ),(113,mW),(138,HF),(139137,kB),(142,VU),(2514003,Nj),(3537003,Nk)]
def Sg(f:FuncId):Option aM:=(sgs.find? (fun p=>p.1==f)).map (fun p=>p.2)
def eqs:List (Nat×K):=[(31,gV),(33,bm),(35,Oo),(37,jE),(118,dR),(54,cX)]
def Eqs(t:TypeId):Option K:=(eqs.find? (fun p=>p.1==t)).map (fun p=>p.2)
def Bn:Shape:=⟨[(6,.int .i64)],[(.slot 2,20000,.box 41 [.val dk]),(.slot 3,20001,.box 31 [.val gV]),(.slot 4,20002,.box 52 [.val (.int .i64),.val (.int .i64),.own (.row 33 bm),.val .str,.val (.int .i64)])],[],[]⟩
def Bo:Shape:=⟨[(6,.int .i64)],[(.slot 2,20000,.box 41 [.val dk]),(.slot 3,20001,.box 33 [.val bm]),(.slot 4,20002,.box 31 [.val gV])],[],[]⟩
def Bp:Shape:=⟨[(6,.int .i64)],[(.slot 2,20000,.box 41 [.val dk]),(.slot 3,20001,.box 31 [.val gV]),(.slot 4,20002,.box 118 [.val dR])],[],[]⟩
def Bq:Shape:=⟨[],[(.slot 2,20000,.box 41 [.val dk]),(.slot 3,20001,.box 33 [.val bm]),(.slot 6,20002,.box 33 [.val bm])],[(5,31000,(.row 33 bm))],[]⟩
def Br:Shape:=⟨[(0,.sl bm),(5,.int .i64)],[(.slot 3,20000,.box 33 [.val bm])],[],[]⟩
def Bu:Shape:=⟨[(0,.str),(3,.int .i64)],[],[],[]⟩
def wS:Shape:=⟨[(6,.int .i64)],[(.slot 1,20000,.box 41 [.val dk])],[(3,31000,(.row 50 (.sl bm))),(4,31001,(.row 33 bm)),(5,31002,(.row 33 bm))],[]⟩
def wT:Shape:=⟨[(4,.int .i64),(5,.int .i64)],[],[(3,31000,(.row 3 (.int .i64)))],[]⟩
def Bv:Shape:=⟨[(4,.int .i64)],[(.slot 1,20000,.box 41 [.val dk]),(.slot 2,20001,.box 41 [.own (.row 52 dn),.own (.row 118 dR)]),(.slot 3,20002,.box 41 [.own (.row 52 dn),.own (.row 118 dR)])],[],[]⟩
def Fe:Shape:=⟨[(18,.sl jE),(19,.int .i64),(20,.int .i64)],[(.slot 4,20000,.box 44 [.own (.row 52 dn),.own (.row 118 dR),.own (.row 54 cX)]),(.slot 6,20001,.box 155 [.own (.row 52 dn),.own (.row 118 dR),.val (.sl cX)])],[],[]⟩
def ua:Shape:=⟨[(6,.bool),(7,.int .i64)],[(.slot 2,20000,.box 41 [.val dk]),(.slot 3,20001,.box 52 [.val dn]),(.slot 4,20002,.box 41 [.own (.row 52 dn),.own (.row 118 dR)]),(.slot 5,20003,.box 41 [.own (.row 52 dn),.val (.sl dR)])],[],[]⟩
def wU:Shape:=⟨[(8,.int .i64)],[(.slot 3,20000,.box 41 [.val dk]),(.slot 4,20001,.box 31 [.val gV]),(.slot 5,20002,.box 31 [.val gV]),(.slot 6,20003,.box 41 [.own (.row 52 dn),.own (.row 118 dR)]),(.slot 7,20004,.box 41 [.own (.row 52 dn),.own (.row 118 dR)])],[],[]⟩
def wV:Shape:=⟨[(9,.int .i64)],[(.slot 3,20000,.box 41 [.val dk]),(.slot 5,20001,.box 31 [.val gV]),(.slot 6,20002,.box 41 [.own (.row 52 dn),.own (.row 118 dR)]),(.slot 7,20003,.box 41 [.own (.row 52 dn),.own (.row 118 dR)])],[],[]⟩
def mb:Shape:=⟨[(12,.sl cX),(13,.int .i64)],[(.slot 4,20000,.box 44 [.own (.row 52 dn),.own (.row 118 dR),.own (.row 54 cX)]),(.slot 8,20001,.box 33 [.val bm]),(.slot 9,20002,.box 33 [.val bm]),(.slot 10,20003,.box 33 [.val bm]),(.slot 11,20004,.box 41 [.val dk])],[],[]⟩
def rk:Shape:=⟨[(7,.bool),(8,.int .i64)],[(.slot 2,20000,.box 44 [.val qg]),(.slot 3,20001,.box 37 [.val jE]),(.slot 4,20002,.box 44 [.own (.row 52 dn),.own (.row 118 dR),.own (.row 54 cX)]),(.slot 6,20003,.box 41 [.own (.row 52 dn),.own (.row 118 dR)])],[],[]⟩
def rl:Shape:=⟨[(7,.bool),(9,.int .i64)],[(.slot 2,20000,.box 44 [.val qg]),(.slot 3,20001,.box 37 [.val jE]),(.slot 4,20002,.box 44 [.own (.row 52 dn),.own (.row 118 dR),.own (.row 54 cX)]),(.slot 6,20003,.box 41 [.own (.row 52 dn),.own (.row 118 dR)])],[],[]⟩
def Bw:Shape:=⟨[(5,.int .i64)],[(.slot 2,20000,.box 41 [.val dk]),(.slot 3,20001,.box 31 [.val gV])],[],[]⟩
def Bx:Shape:=⟨[(4,.int .i64)],[(.slot 1,20000,.box 41 [.val dk])],[(3,31000,(.row 3 (.int .i64)))],[]⟩
def wW:Shape:=⟨[(5,.int .i64)],[(.slot 1,20000,.box 41 [.val dk])],[(3,31000,(.row 3 (.int .i64)))],[]⟩
def rm:Shape:=⟨[(5,.int .i64),(6,.int .i64)],[(.slot 1,20000,.box 41 [.val dk])],[(3,31000,(.row 3 (.int .i64)))],[]⟩
def By:Shape:=⟨[(0,.sl bm),(1,.sl bm),(5,.int .i64)],[],[],[]⟩
def Bz:Shape:=⟨[(4,.int .i64)],[(.slot 1,20000,.box 41 [.val dk])],[(3,31000,(.row 33 bm))],[]⟩
def BA:Shape:=⟨[(14,.int .i64),(15,.int .i64)],[(.slot 2,20000,.box 41 [.own (.row 52 dn),.own (.row 118 dR)]),(.slot 3,20001,.box 41 [.own (.row 52 dn),.own (.row 118 dR)])],[],[]⟩
def ub:Shape:=⟨[(6,.bool),(7,.int .i64)],[(.slot 2,20000,.box 41 [.val dk]),(.slot 3,20001,.box 118 [.val dR]),(.slot 4,20002,.box 41 [.own (.row 52 dn),.own (.row 118 dR)]),(.slot 5,20003,.box 41 [.val (.sl dn),.own (.row 118 dR)])],[],[]⟩
def kR:Shape:=⟨[(0,.sl cX),(8,.bool),(9,.int .i64)],[(.slot 3,20000,.box 54 [.val cX])],[(7,31000,(.row 54 cX))],[]⟩
def wX:Shape:=⟨[(0,.sl bm),(3,.int .i64),(4,.int .i64)],[],[],[]⟩
def BB:Shape:=⟨[(0,.sl bm),(3,.int .i64),(6,.int .i64)],[],[(5,31000,(.row 33 bm))],[]⟩
def BC:Shape:=⟨[(4,.int .i64)],[(.slot 1,20000,.box 41 [.val dk])],[(3,31000,(.row 31 gV))],[]⟩
def wY:Shape:=⟨[(5,.int .i64)],[(.slot 1,20000,.box 41 [.val dk])],[(3,31000,(.row 31 gV))],[]⟩
def wZ:Shape:=⟨[(0,.sl gV),(3,.int .i64)],[],[],[]⟩
def uc:Shape:=⟨[(3,.int .i64)],[(.slot 1,20000,.box 41 [.val dk])],[],[]⟩
def w4:Shape:=⟨[(3,.int .i64),(4,.sl bm),(6,.int .i64)],[(.slot 1,20000,.box 41 [.val dk])],[],[]⟩
def w5:Shape:=⟨[(9,.int .i64)],[(.slot 1,20000,.box 41 [.val dk])],[],[]⟩
def ud:Shape:=⟨[(9,.int .i64),(10,.int .i64)],[(.slot 1,20000,.box 41 [.val dk])],[],[]⟩
def ue:Shape:=⟨[(6,.int .i64),(7,.int .i64)],[(.slot 1,20000,.box 41 [.val dk])],[],[]⟩
def w6:Shape:=⟨[(0,.str)],[],[(6,31000,.nQ)],[]⟩
def mf:Shape:=⟨[(48,.int .i64),(49,.int .i64)],[(.slot 0,1000,.box 155 [.own (.row 52 dn),.own (.row 118 dR),.val (.sl cX)]),(.slot 5,20001,.box 44 [.val qg]),(.slot 7,20002,.box 33 [.val bm])],[(9,31000,(.row 33 bm)),(47,31001,(.row 35 Oo))],[]⟩
def Ff:Shape:=⟨[(5,.int .i64),(32,.int .i64),(33,.int .i64)],[(.slot 0,1000,.box 155 [.own (.row 52 dn),.own (.row 118 dR),.val (.sl cX)]),(.slot 7,20001,.box 33 [.val bm]),(.slot 8,20002,.box 33 [.val bm])],[(31,31000,(.row 33 bm))],[]⟩
def w7:Shape:=⟨[(5,.int .i64),(47,.int .i64),(48,.int .i64)],[(.slot 0,1000,.box 155 [.own (.row 52 dn),.own (.row 118 dR),.val (.sl cX)])],[(46,31000,(.row 33 bm))],[]⟩
def nG:Shape:=⟨[(113,.int .i64)],[(.slot 0,1000,.box 155 [.own (.row 52 dn),.own (.row 118 dR),.val (.sl cX)]),(.slot 8,20001,.box 33 [.val bm]),(.slot 9,20002,.box 33 [.val bm]),(.slot 10,20003,.box 33 [.val bm])],[],[]⟩
def BD:Shape:=⟨[(5,.int .i64)],[(.slot 2,20000,.box 44 [.val qg]),(.slot 3,20001,.box 33 [.val bm]),(.slot 4,20002,.box 33 [.val bm])],[],[]⟩
def w8:Shape:=⟨[(2,.sl bm),(8,.int .i64)],[(.slot 4,20000,.box 31 [.val gV]),(.slot 6,20001,.box 41 [.own (.row 52 dn),.own (.row 118 dR)]),(.slot 7,20002,.box 41 [.own (.row 52 dn),.own (.row 118 dR)])],[],[]⟩
def sf:Shape:=⟨[(0,.sl bm),(7,.int .i64),(9,.int .i64)],[(.slot 5,20000,.box 33 [.val bm])],[(8,31000,(.row 33 bm))],[]⟩
def vn:Shape:=⟨[(0,.sl cX),(6,.int .i64)],[(.slot 3,20000,.box 33 [.val bm]),(.slot 4,20001,.box 33 [.val bm])],[],[]⟩
def si:Shape:=⟨[(0,.sl bm),(6,.int .i64)],[(.slot 3,20000,.box 33 [.val bm])],[(5,31000,(.row 33 bm))],[]⟩
def sj:Shape:=⟨[(5,.int .i64),(6,.int .i64)],[(.slot 2,20000,.box 41 [.val dk]),(.slot 3,20001,.box 33 [.val bm])],[],[]⟩
def pM:Shape:=⟨[(5,.int .i64),(6,.int .i64),(7,.int .i64)],[(.slot 2,20000,.box 41 [.val dk]),(.slot 3,20001,.box 33 [.val bm])],[],[]⟩
def zH:Shape:=⟨[(7,.int .i64)],[(.slot 0,1000,.box 155 [.own (.row 52 dn),.own (.row 118 dR),.val (.sl cX)]),(.slot 3,20001,.box 33 [.val bm]),(.slot 4,20002,.box 33 [.val bm]),(.slot 5,20003,.box 33 [.val bm])],[],[]⟩
def vo:Shape:=⟨[(12,.int .i64),(13,.int .i64)],[(.slot 0,1000,.box 155 [.own (.row 52 dn),.own (.row 118 dR),.val (.sl cX)]),(.slot 3,20001,.box 33 [.val bm])],[],[]⟩
def vp:Shape:=⟨[(12,.int .i64),(13,.int .i64)],[(.slot 2,20000,.box 44 [.val qg]),(.slot 3,20001,.box 33 [.val bm]),(.slot 4,20002,.box 33 [.val bm])],[],[]⟩
def vq:Shape:=⟨[(0,.sl bm),(7,.int .i64),(8,.int .i64)],[(.slot 3,20000,.box 33 [.val bm])],[],[]⟩
def vt:Shape:=⟨[(0,.sl (.sl bm)),(3,.int .i64),(9,.sl (.sl bm)),(10,.int .i64),(11,.int .i64)],[],[],[]⟩
def vu:Shape:=⟨[(25,.sl (.sl bm)),(26,.int .i64),(27,.int .i64)],[],[(6,31000,(.row 33 bm))],[]⟩
def zJ:Shape:=⟨[(3,.int .i64),(6,.sl (.int .i64)),(7,.int .i64),(8,.int .i64)],[],[],[]⟩
def vv:Shape:=⟨[(9,.sl dn),(10,.int .i64),(11,.int .i64)],[(.slot 3,20000,.box 33 [.val bm]),(.slot 4,20001,.box 31 [.val gV])],[],[]⟩
def vw:Shape:=⟨[(8,.sl dR),(9,.int .i64),(10,.int .i64)],[],[(3,31000,(.row 33 bm))],[]⟩
def so:Shape:=⟨[(18,.sl dn),(19,.int .i64),(20,.int .i64)],[],[(3,31000,(.row 3 (.int .i64))),(4,31001,(.map bm (.int .i64)))],[]⟩
def vx:Shape:=⟨[(5,.int .i64),(18,.sl dn),(19,.int .i64),(20,.int .i64),(30,.sl bm),(31,.int .i64),(32,.int .i64)],[],[(3,31000,(.row 3 (.int .i64))),(4,31001,(.map bm (.int .i64)))],[]⟩
def pN:Shape:=⟨[(4,.mp bm (.int .i64))],[],[(3,31000,(.row 3 (.int .i64))),(42,31001,(.iter bm (.int .i64)))],[]⟩
def vz:Shape:=⟨[(61,.int .i64),(62,.int .i64)],[],[(3,31000,(.row 3 (.int .i64))),(13,31001,(.row 3 (.int .i64)))],[]⟩
def vA:Shape:=⟨[(11,.sl dn),(12,.int .i64),(13,.int .i64)],[(.slot 3,20000,.box 33 [.val bm]),(.slot 4,20001,.box 33 [.val bm])],[],[]⟩
def sq:Shape:=⟨[(1,.int .i64)],[],[(0,1000,(.row 3 (.int .i64)))],[]⟩
def iD:Shape:=⟨[(0,.sl dn),(8,.int .i64),(9,.int .i64),(10,.int .i64)],[(.slot 4,20000,.box 31 [.val gV])],[],[(2,207,[])]⟩
def iE:Shape:=⟨[(0,.sl dR),(8,.int .i64),(9,.int .i64),(10,.int .i64)],[(.slot 4,20000,.box 31 [.val gV])],[],[(2,214,[])]⟩
def jW:Shape:=⟨[(0,.sl bm),(6,.int .i64)],[(.slot 4,20000,.box 33 [.val bm]),(.slot 5,20001,.box 33 [.val bm])],[],[(1,195,[])]⟩
def mg:Shape:=⟨[(11,.sl dn),(12,.int .i64),(13,.int .i64)],[(.slot 5,20000,.box 31 [.val gV]),(.slot 6,20001,.box 52 [.val (.int .i64),.val (.int .i64),.own (.row 33 bm),.val .str,.val (.int .i64)])],[],[(1,109,[])]⟩
def iF:Shape:=⟨[(0,.sl cX),(8,.int .i64),(9,.int .i64),(10,.int .i64)],[(.slot 4,20000,.box 33 [.val bm])],[],[(2,232,[])]⟩
def jX:Shape:=⟨[(0,.sl cX),(7,.int .i64),(8,.int .i64)],[(.cap 1 0,1000,.box 33 [.val bm])],[],[(1,245,[1000])]⟩
def jY:Shape:=⟨[(5,.int .i64),(8,.sl dn),(9,.int .i64),(10,.int .i64)],[],[],[(1,239,[])]⟩
def pO:Shape:=⟨[(4,.int .i64),(7,.bool),(8,.bool),(9,.int .i64)],[(.slot 1,20000,.box 41 [.val dk])],[],[]⟩
def pP:Shape:=⟨[(7,.bool),(8,.bool),(10,.int .i64)],[(.slot 1,20000,.box 41 [.val dk])],[],[]⟩
def vB:Shape:=⟨[(5,.bool),(9,.int .i64),(10,.int .i64)],[],[(7,31000,(.row 37 jE))],[]⟩
def vC:Shape:=⟨[(3,.int .i64)],[(.slot 1,20000,.box 44 [.val qg])],[],[]⟩
def jy:Shape:=⟨[(32,.sl bm),(33,.int .i64),(34,.int .i64)],[(.slot 3,20000,.box 37 [.val jE]),(.slot 5,20001,.box 52 [.val dn]),(.slot 7,20002,.box 118 [.val dR]),(.slot 9,20003,.box 37 [.val jE])],[],[]⟩
def sr:Shape:=⟨[(0,.sl (.sl jE)),(3,.int .i64),(9,.sl (.sl jE)),(10,.int .i64),(11,.int .i64)],[],[],[]⟩
def pQ:Shape:=⟨[(25,.sl (.sl jE)),(26,.int .i64),(27,.int .i64)],[],[(6,31000,(.row 37 jE))],[]⟩
def mh:Shape:=⟨[(11,.sl dR),(12,.int .i64),(13,.int .i64)],[(.slot 5,20000,.box 31 [.val gV]),(.slot 6,20001,.box 118 [.val dR])],[],[(1,138,[])]⟩
def ans:List (Nat×List (Nat×Shape)):=[(106,[(12,pO),(17,pP)]),(79,[(2,Bn)]),(124,[(2,Bo)]),(92,[(2,Bp)]),(192,[(6,Bq)]),(144,[(2,Br)]),(91,[(2,Bu)]),(164,[(5,wS)]),(165,[(4,wT)]),(21,[(3,Bv)]),(103,[(3,Fe)]),(80,[(4,ua)]),(81,[(3,wU),(8,wV)]),(85,[(18,mb)]),(86,[(4,rk),(12,rl)]),(217,[(2,Bw)]),(193,[(3,Bx),(7,wW),(10,rm)]),(98,[(4,By)]),(191,[(3,Bz)]),(96,[(3,BA)]),(115,[(4,ub)]),(117,[(7,kR)]),(122,[(3,wX),(9,BB)]),(133,[(3,BC),(7,wY)]),(134,[(2,wZ)]),(135,[(2,uc),(9,w4),(15,w5),(18,ud)]),(136,[(3,ue)]),(161,[(2,w6)]),(154,[(8,mf)]),(155,[(6,Ff),(11,w7)]),(157,[(19,nG)]),(143,[(2,BD)]),(145,[(3,w8)]),(146,[(6,sf)]),(147,[(2,vn)]),(126,[(3,si)]),(163,[(3,sj),(6,pM)]),(184,[(3,zH)]),(185,[(2,vo)]),(212,[(2,vp)]),(168,[(2,vq)]),(196,[(3,vt),(11,vu)]),(218,[(3,zJ)]),(139,[(2,vv)]),(249,[(3,vw)]),(256,[(4,so),(8,vx),(14,pN),(21,vz)]),(258,[(2,vA)]),(260,[(1,sq)]),(208206,[(3,iD)]),(215213,[(3,iE)]),(196194,[(5,jW)]),(110108,[(2,mg)]),(233231,[(3,iF)]),(246244,[(2,jX)]),(240238,[(3,jY)]),(8,[(8,vB)]),(43,[(2,vC)]),(77,[(5,jy)]),(113,[(3,sr),(11,pQ)]),(139137,[(2,mh)])]
def An(f:FuncId)(key:Nat):Option Shape:=(ans.find? (fun p=>p.1==f)).bind fun p=>(p.2.find? (fun q=>q.1==key)).map (fun q=>q.2)
abbrev JT(g:aM):=(sh:Shape)→List Item→sh.T→Option g.B
noncomputable def bX(f:FuncId)(g:aM)(fn:Func)(F:FT)(J:JT g)(x:g.A):Option g.B:=aA Tryz.prog Eqs Sg F fn.ntmps (An f) J (qO Tryz.prog g fn) fuel [.code (fn.body.getD .skip)] (entry g x)
noncomputable def fw(f j:Nat)(g:aM)(fn:Func)(sh:Shape)(F:FT)(J:JT g)(x:sh.T):Option g.B:=aA Tryz.prog Eqs Sg F fn.ntmps (An f) J (qO Tryz.prog g fn) fuel (round (aN Tryz.prog (f%1000) j)) (ao sh x)
end Go.Vs
namespace Go.Vs
open Go.Proofs
variable {G:(f:FuncId)→(g:aM)→Option (g.A→Option g.B)}
noncomputable abbrev FX(G:(f:FuncId)→(g:aM)→Option (g.A→Option g.B)):FT:=Fix Tryz.prog Eqs Sg An G
noncomputable abbrev LX(G:(f:FuncId)→(g:aM)→Option (g.A→Option g.B))(f:FuncId)(g:aM)(fn:Func):JT g:=Lp Tryz.prog Eqs Sg An G f g fn
abbrev HG(G:(f:FuncId)→(g:aM)→Option (g.A→Option g.B)):Prop:=∀f g,(f==240 || f==241)=false→G f g=none
theorem ax{f:FuncId}{g:aM}{fn:Func}{x:g.A}{y:g.B}(hG:G f g=none)(hb:body Tryz.prog (f%1000)=some (fn,fn.body.getD .skip))(hc:(decide (g.ps.length≤fn.ntmps)&&decide (g.bs.length≤8))=true)
  (h:bX f g fn (FX G) (LX G f g fn) x=some y):FX G f g x=some y:=La hG hb hc h
theorem ar{f j:Nat}{g:aM}{fn:Func}{sh:Shape}{x:sh.T}{y:g.B}(hs:(match aN Tryz.prog (f%1000) j with | .inLoop _::_=>true|_=>false)=true)
  (h:fw f j g fn sh (FX G) (LX G f g fn) x=some y):LX G f g fn sh (aN Tryz.prog (f%1000) j) x=some y:=by
 unfold fw at h
 generalize aN Tryz.prog (f%1000) j=s at hs h ⊢
 split at hs
 ·exact PW h
 ·cases hs
abbrev aa3:=(Int×Unit)
abbrev aa4:=(((List ah)×((List ai)×Unit))×(((List ah)×((List ai)×Unit))×Unit))
abbrev aa7:=(ae×Unit)
abbrev aa8:=(Int×aa3)
abbrev aa9:=((aj×Unit)×Unit)
abbrev abM:=(ID×Unit)
abbrev abO:=((List ae)×Unit)
abbrev abP:=(aa7×Unit)
abbrev abS:=((List Int)×Unit)
abbrev abT:=(aj×Unit)
abbrev abZ:=(Unit×Unit)
abbrev ab0:=((List ae)×aa3)
abbrev ab7:=((List ae)×aa8)
abbrev acd:=(bj×Unit)
abbrev acf:=(aW×Unit)
abbrev acg:=(abM×Unit)
abbrev aci:=(abM×((Int×(Int×((List ae)×(ByteArray×aa3))))×Unit))
abbrev acj:=((List ah)×aa8)
abbrev ack:=(aa9×Unit)
end Go.Vs
