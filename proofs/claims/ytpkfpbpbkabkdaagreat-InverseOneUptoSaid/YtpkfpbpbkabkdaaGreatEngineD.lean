/- The value semantics is sound -/
import Derived.Test.YtpkfpbpbkabkdaaGreatEngineC
import Derived.Test.YtpkfpbpbkabkdaaGreatProg
import Derived.Scope
import Derived.KernelRfl
set_option linter.unusedSimpArgs false
set_option linter.unusedVariables false
namespace Go.Vs
variable {P:Program} {Eqs:TypeId→Option K} {Sg:FuncId→Option aS} {F:(f:FuncId)→(g:aS)→g.A→Option g.B} {R:Type}
variable {Z Z' Z0:Nat→Prop} {ψ ψ' ψ0:Nat→Value} {h h':Hp} {w w' w0:World} {B0:Nat} {O N:Nat→Prop}
def fD(st:St):(l:List (Nat×Nat×OK))→Ke (l.map (·.2.2))→List yG
 |[],_=>[]
 |(s,id,ok)::r,x=>(id,(pe (look st.tmps s)).head?,.own ok x.1)::fD st r x.2
theorem vo(st:St):∀(l:List (Nat×Nat×OK)) (x:Ke (l.map (·.2.2))),dJ (fD st l x)=qS l x
 |[],_=>rfl
 |(s,id,ok)::r,x=>by simp only[fD,qS];rw[←vo st r x.2];rfl
theorem tp(st:St):∀(l:List (Nat×Nat×OK)) (x:Ke (l.map (·.2.2))),(fD st l x).map (·.1)=l.map (·.2.1)
 |[],_=>rfl
 |(s,id,ok)::r,x=>by simp only[fD,List.map_cons];rw[tp st r x.2]
theorem yT(st:St):∀(l:List (Nat×Nat×OK)) (x:Ke (l.map (·.2.2))),(fD st l x).filterMap (·.2.1)=l.flatMap fun p=>pe (look st.tmps p.1)
 |[],_=>rfl
 |(s,id,ok)::r,x=>by simp only[fD,List.flatMap_cons];rw[dW,yT st r x.2];simp only[];rw[wY]
theorem rf{st:St}{s id:Nat}{ok:OK}{r:List (Nat×Nat×OK)}{x:Ke (((s,id,ok)::r).map (·.2.2))}(hd:nE st ((s,id,ok)::r)=some x):dY st.heap ok (look st.tmps s)=some x.1∧nE st r=some x.2:=by
 have e:nE st ((s,id,ok)::r)=(match dY st.heap ok (look st.tmps s),nE st r with
  |some x,some y=>some ((x,y):ok.T×Ke (r.map (·.2.2)))
  |_,_=>none):=rfl
 rw[e]at hd;clear e;generalize dY st.heap ok (look st.tmps s)=o1 at hd ⊢;generalize nE st r=o2 at hd ⊢
 cases o1 with
 |none=>cases hd
 |some x1 =>
  cases o2 with
  |none=>cases hd
  |some y1=>have:=acv hd;subst this;exact⟨rfl,rfl⟩
theorem BE{hd:Hp}{st:St}:∀(l:List (Nat×Nat×OK)) (x:Ke (l.map (·.2.2))),nE st l=some x→(∀s∈(l.flatMap fun p=>pe (look st.tmps p.1)),hd s=st.heap.get s) → ∀e∈fD st l x,vc Z ψ hd w h' ψ' e
 |[],_,_,_,e,he=>by simp[fD]at he
 |(s,id,ok)::r,x,hx,hk,e,he=>by
  obtain⟨h1,h2⟩:=rf hx;simp only[List.flatMap_cons]at hk;simp only[fD]at he;rcases aa1.1 he with rfl|he
  ·exact Mb h1 fun s hs=>hk s (aa2 _ hs)
  ·exact BE r x.2 h2 (fun s hs=>hk s (aco _ hs)) e he
theorem HW{st:St}{s:Nat}{k:K}{r:List (Nat×K)}{x:Hd (((s,k)::r).map (·.2))}(hd:qQ st ((s,k)::r)=some x):fY k st.heap (look st.tmps s)=some x.1∧qQ st r=some x.2:=by
 have e:qQ st ((s,k)::r)=(match fY k st.heap (look st.tmps s),qQ st r with
  |some x,some y=>some ((x,y):k.T×Hd (r.map (·.2)))
  |_,_=>none):=rfl
 rw[e]at hd;clear e;generalize fY k st.heap (look st.tmps s)=o1 at hd ⊢;generalize qQ st r=o2 at hd ⊢
 cases o1 with
 |none=>cases hd
 |some x1 =>
  cases o2 with
  |none=>cases hd
  |some y1=>have:=acv hd;subst this;exact⟨rfl,rfl⟩
theorem fb{T:List (Nat×AV)}{n:Nat}{a:Act}(eZ:∀p∈T,aC Z ψ h w p.2 (a.tmps.getD p.1 undef))(hs:a.tmps.size=n)(hd:a.defers=[]):cU Z ψ h w n (look T) a:=by
 refine⟨fun d=>?_,hs,hd⟩
 induction T with
 |nil=>simp only[look,aC]
 |cons p r ih =>
  obtain⟨i,v⟩:=p;simp only[look]
  split
  ·rename_i e;subst e;exact eZ _ acr
  ·exact ih fun p hp=>eZ p (aaY _ hp)
section
variable {st:St} {n:Nat} {a:Act}
theorem vp(g:Good Z ψ st.heap.get w B0 O)(t:cU Z ψ st.heap.get w n (look st.tmps) a)(hz:∀b,Z b→Z' b):∀(l:List (Nat×K)) (x:Hd (l.map (·.2))),qQ st l=some x →(∀id b,AV.bK id∈(l.flatMap fun p=>(look st.tmps p.1).cells)→st.heap.get id≠none→ob (ψ id)=some b→Z' b)→∀p∈qR l x,aC Z' ψ' h' w p.2 (a.tmps.getD p.1 undef)
 |[],_,_,_,p,hp=>by simp[qR]at hp
 |(s,k)::r,x,hx,hf,p,hp=>by
  obtain⟨h1,h2⟩:=HW hx;simp only[List.flatMap_cons]at hf;simp only[qR]at hp;rcases aa1.1 hp with rfl|hp
  ·exact r8 g hz (fun id b bR=>hf id b (aa2 _ bR)) h1 (t.rep s)
  ·exact vp g t hz r x.2 h2 (fun id b bR=>hf id b (aco _ bR)) p hp
theorem tq(t:cU Z ψ st.heap.get w n (look st.tmps) a):∀(l:List (Src×Nat×BK)) (ids:List Nat),Fp st l=some ids→(∀i∈ids,st.heap.get i≠none) →(∀p∈ids.zip (l.map (·.2.1)),h' p.2≠none→ψ' p.2=ψ p.1)→∀p∈jO l,aC Z' ψ' h' w p.2 (a.tmps.getD p.1 undef)
 |[],_,_,_,_,p,hp=>by simp[jO]at hp
 |(src,mL,b)::r,ids,hx,hi,ji,p,hp=>by
  simp only[Fp]at hx
  split at hx
  ·rename_i i is h1 h2
   cases hx
   simp only[List.map_cons,List.zip_cons_cons]at ji;have ih:=tq t r is h2 (fun j hj=>hi j (aaY _ hj)) (fun p hp=>ji p (aaY _ hp)) p
   cases src with
   |slot s =>
    simp only[jO]at hp;rcases aa1.1 hp with rfl|hp
    ·simp only[WC]at h1;obtain⟨sz,h3⟩:=pG h1;have h4:=t.rep s;rw[h3]at h4;exact z7 h4 (hi i acr) (ji (i,mL) acr)
    ·exact ih hp
   |cap s j=>exact ih (by simpa only[jO] using hp)
  ·cases hx
theorem HX{hh:Heap}{ids:List (Nat×Nat)}(hi:∀p∈ids,hh.get p.1≠none)(ji:∀p∈ids,h' p.2≠none→ψ' p.2=ψ p.1):∀(cap:List AV) (is DC:List Nat) (vs:List Value),jM cap=some is → is.map (fun i=>(ids.find? (·.1==i)).map (·.2))=DC.map some→aq Z ψ hh.get w cap vs→aq Z' ψ' h' w (DC.map fun i=>.ref i 0 0 0) vs
 |[],is,DC,vs,h1,h2,hr=>by
  simp only[jM]at h1
  cases h1
  cases DC with
  |nil=>simpa only[List.map_nil,aq] using hr
  |cons c r=>simp at h2
 |v::cap,is,DC,vs,h1,h2,hr=>by
  simp only[jM]at h1
  split at h1
  ·rename_i i is' h3 h4
   cases h1
   cases DC with
   |nil=>simp at h2
   |cons c r =>
    simp only[List.map_cons,List.cons.injEq]at h2;obtain⟨h5,h6⟩:=h2;simp only[List.map_cons,aq]at hr ⊢;obtain⟨u,us,rfl,h7,h8⟩:=hr;obtain⟨sz,rfl⟩:=pG h3
    cases hf:ids.find? (·.1==i) with
    |none=>rw[hf]at h5;cases h5
    |some p =>
     rw[hf]at h5;have hm:=ado hf;have he:=aeF hf;simp only[Option.map_some,Option.some.injEq]at h5;have X0:p.1=i:=by simpa using he
     refine⟨u,us,rfl,z7 h7 (by rw[←X0];exact hi p hm) (fun hn=>?_),HX hi ji cap is' r us h4 h6 h8⟩;rw[←h5,←X0];exact ji p hm (by rw[h5];exact hn)
  ·cases h1
theorem yU(t:cU Z ψ st.heap.get w n (look st.tmps) a){ids:List (Nat×Nat)}(hi:∀p∈ids,st.heap.get p.1≠none)(ji:∀p∈ids,h' p.2≠none→ψ' p.2=ψ p.1):∀(l:List (Nat×FuncId×List Nat)),L7 st ids l=true → ∀p∈zT l,aC Z' ψ' h' w p.2 (a.tmps.getD p.1 undef)
 |[],_,p,hp=>by simp[zT]at hp
 |(s,f,DC)::r,hx,p,hp=>by
  simp only[L7,Bool.and_eq_true]at hx;simp only[zT,List.map_cons]at hp;rcases aa1.1 hp with rfl|hp
  ·have h1:=hx.1
   split at h1
   ·rename_i f' cap hl;simp only[Bool.and_eq_true,decide_eq_true_eq]at h1;obtain⟨rfl,h2⟩:=h1
    split at h2
    ·rename_i is hri;have h4:=t.rep s;rw[hl]at h4;simp only[aC]at h4 ⊢;obtain⟨vs,h5,h6⟩:=h4;exact⟨vs,h5,HX hi ji cap is DC _ hri (of_decide_eq_true h2) h6⟩
    ·cases h2
   ·cases h1
  ·exact yU t hi ji r hx.2 p hp
theorem vq(t:cU Z ψ st.heap.get w n (look st.tmps) a):∀(l:List (Nat×Nat×OK)) (x:Ke (l.map (·.2.2))),nE st l=some x→(∀e∈fD st l x,h' e.1≠none→ψ' e.1=jS ψ e.2.1) → ∀p∈(l.map fun p=>(p.1,AV.bK p.2.1)),aC Z' ψ' h' w p.2 (a.tmps.getD p.1 undef)
 |[],_,_,_,p,hp=>by simp at hp
 |(s,id,ok)::r,x,hx,ji,p,hp=>by
  obtain⟨h1,h2⟩:=rf hx;simp only[fD]at ji;simp only[List.map_cons]at hp;rcases aa1.1 hp with rfl|hp
  ·exact FC h1 (t.rep s) (ji _ acr)
  ·exact vq t r x.2 h2 (fun e he=>ji e (aaY _ he)) p hp
end
theorem vt{st:St}{m:Nat}:∀(l:List (Nat×Nat×OK)) (x:Ke (l.map (·.2.2))),oi st m l=true→∃o,(m,some m,o)∈fD st l x
 |[],_,h=>by cases h
 |(s,id,ok)::r,x,h=>by
  simp only[oi,Bool.or_eq_true,Bool.and_eq_true,beq_iff_eq]at h;rcases h with⟨rfl,h⟩|h
  ·split at h
   ·rename_i i hl;have hi:i=id:=by simpa using h
    subst hi;exact⟨_,by simp only[fD,hl,pe,List.head?_cons];exact acr⟩
   ·cases h
  ·obtain⟨o,ho⟩:=vt r x.2 h;exact⟨o,aaY _ ho⟩
theorem tu{st:St}{m:Nat}:∀(l:List (Nat×Nat×OK)) (x:Ke (l.map (·.2.2))),nE st l=some x→oi st m l=true→st.heap.get m≠none
 |[],_,_,h=>by cases h
 |(s,id,ok)::r,x,hx,h=>by
  obtain⟨h1,h2⟩:=rf hx;simp only[oi,Bool.or_eq_true,Bool.and_eq_true,beq_iff_eq]at h;rcases h with⟨rfl,h⟩|h
  ·split at h
   ·rename_i i hl;have hi:i=id:=by simpa using h
    subst hi;rw[hl]at h1;simp only[dY]at h1
    split at h1
    ·rename_i hg;rw[hg];simp
    ·cases h1
   ·cases h
  ·exact tu r x.2 h2 h
theorem Mf{kP:List AV}{hh:Heap}{b:Nat}(hb:qE Z ψ hh.get kP b):Z b∨Own ψ hh.get b:=hb.imp (fun h=>h) fun⟨i,_,h2,h3⟩=>⟨i,h2,h3⟩
theorem gu{sh:Shape}{st:St}{x:sh.T}{n:Nat}{a:Act}(hx:cK sh st=some x)(k:Ok Z0 w0 O ψ0 Z ψ st.heap.get w)(t:cU Z ψ st.heap.get w n (look st.tmps) a) :
  ∃Z' ψ',Ok Z0 w0 O ψ0 Z' ψ' (ar sh x).heap.get w∧cU Z' ψ' (ar sh x).heap.get w n (look (ar sh x).tmps) a:=by
 unfold cK at hx
 split at hx
 ·cases hx
 rename_i ids nH
 split at hx
 ·rename_i xv xb xr hv hb hr DH
  cases hx
  simp only[Bool.and_eq_true]at DH;obtain⟨HY,Bn,af9,aga⟩:=DH;obtain⟨hlen,Bp⟩:=jq _ _ _ hb;have WT:(sh.boxes.map (·.2.1)).length=sh.bs.length:=by simp[Shape.bs]
  let L:List yG:=cF sh.bs st.heap ids (sh.boxes.map (·.2.1)) 9000 xb++fD st sh.rows xr
  have eH:dJ L=(ar sh (xv,xb,xr)).heap:=by show dJ (_++_)=_;rw[mW,jo _ _ _ _ _ _ hb WT,vo];rfl
  have eN:L.map (·.1)=rT sh:=by show(_++_:List yG).map _=_;rw[List.map_append,hM _ _ _ _ _ _ hb WT,tp];rfl
  have eS:L.filterMap (·.2.1)=Hg st sh ids:=by show(_++_:List yG).filterMap _=_;rw[List.filterMap_append,km _ _ _ _ _ _ hb WT,yT];rfl
  have hn:ck (L.map (·.1))=true:=by rw[eN];exact Bn
  have ji:=z6 (ψ:=ψ) hn;have hz:∀b,Z b→qE Z ψ st.heap.get (zR st sh ids) b:=fun b hb=>.inl hb;have J4:=(so HY).2 st.heap;have g':Good (qE Z ψ st.heap.get (zR st sh ids)) (fa ψ L) (dJ L).get w w0.heap.size O:=by
   refine wZ k.ed HY hn eS fun e he=>?_;rcases acw.1 he with he|he
   ·exact lW k.ed hz sh.bs ids _ 9000 xb hb (fun id b bR h1 h2=>.inr ⟨id,aco _ bR,h1,h2⟩) (fun s hs=>J4 s (aa2 _ hs)) (fun e he=>ji e (aa2 _ he)) e he
   ·exact BE sh.rows xr hr (fun s hs=>J4 s (aco _ hs)) e he
  have Qu:∀p∈ids.zip (sh.boxes.map (·.2.1)),(dJ L).get p.2≠none→fa ψ L p.2=ψ p.1:=fun p hp bw=>by obtain⟨o,ho⟩:=kq sh.bs ids (sh.boxes.map (·.2.1)) 9000 xb (hh:=st.heap) hlen p hp;exact ji (p.2,some p.1,o) (aa2 _ ho) bw
  have zy:∀p∈ids.zip (sh.boxes.map (·.2.1)),st.heap.get p.1≠none:=fun p hp=>Bp _ (List.of_mem_zip hp).1;refine⟨qE Z ψ st.heap.get (zR st sh ids),fa ψ L,?_,?_⟩
  ·rw[←eH];refine⟨g',fun b hb=>.inl (k.fV b hb),fun b hb=>?_,k.os,k.tape,k.output,k.size,k.block,fun i hi bw=>?_⟩
   ·rcases Mf hb with h1|⟨id,h1,h2⟩
    ·exact k.eR b h1
    ·exact .inr (k.ed.live id b h1 h2).2.symm
   ·obtain⟨o,ho⟩:=acx.1 bw;obtain⟨s,hm⟩:=oq ho;have gY:i∈rT sh:=by rw[←eN];exact adD.2 ⟨_,hm,rfl⟩
    have h1:=adG.1 af9 i gY;simp only[Bool.or_eq_true,decide_eq_true_eq]at h1;rcases h1 with(h1|h1)|h1
    ·omega
    ·obtain⟨p,hp,he⟩:=List.any_eq_true.1 h1;simp only[Bool.and_eq_true,beq_iff_eq]at he;have h2:=Qu p hp (by rw[he.2];exact bw);rw[he.1,he.2]at h2;rw[h2];exact k.fix i hi (by have:=zy p hp;rwa [he.1]at this)
    ·obtain⟨o',nK⟩:=vt sh.rows xr h1;have h2:fa ψ L i=ψ i:=ji (i,some i,o') (aco _ nK) bw;rw[h2];exact k.fix i hi (tu sh.rows xr hr h1)
  ·rw[←eH];refine fb (fun p hp=>?_) t.size t.defers;simp only[ar]at hp;rcases acw.1 hp with hp|hp
   ·exact vp k.ed t hz sh.zu xv hv (fun id b bR h1 h2=>.inr ⟨id,aa2 _ bR,h1,h2⟩) p hp
   ·rcases acw.1 hp with hp|hp
    ·exact tq t sh.boxes ids nH Bp Qu p hp
    ·rcases acw.1 hp with hp|hp
     ·exact yU t zy Qu sh.fns aga p hp
     ·exact vq t sh.rows xr hr (fun e he=>ji e (aco _ he)) p hp
 ·cases hx
end Go.Vs
namespace Go.Vs
variable {P:Program} {Eqs:TypeId→Option K} {Sg:FuncId→Option aS} {F:(f:FuncId)→(g:aS)→g.A→Option g.B} {R:Type}
variable {Z Z' Z0:Nat→Prop} {ψ ψ' ψ0:Nat→Value} {h h':Hp} {w w' w0:World} {B0:Nat} {O N:Nat→Prop}
def Reach(P:Program)(b:Frame)(cs:List Frame)(ug:Act→World→Prop)(m:Machine):Prop:=∃a' w' todo,ug a' w'∧Steps P m (lone { b.at a' todo with mode:=.returning } cs w')
theorem Reach.head{b:Frame}{cs:List Frame}{ug:Act→World→Prop}{m m':Machine}(h:step P m=.next m')(r:Reach P b cs ug m'):Reach P b cs ug m:=by obtain⟨a,w,todo,h1,h2⟩:=r;exact⟨a,w,todo,h1,.head h h2⟩
theorem Reach.steps{b:Frame}{cs:List Frame}{ug:Act→World→Prop}{m m':Machine}(h:Steps P m m')(r:Reach P b cs ug m'):Reach P b cs ug m:=by obtain⟨a,w,todo,h1,h2⟩:=r;exact⟨a,w,todo,h1,h.trans h2⟩
mutual
theorem HZ{p:Nat→Prop}(hp:∀i,p i):∀v:AV,aM p v
 |.ref id _ _ _=>by simp only[aM];exact hp id
 |.bK id=>by simp only[aM];exact hp id
 |.fn _ cap=>by simp only[aM];exact su hp cap
 |.agg cs=>by simp only[aM];exact su hp cs
 |.nu vs=>by simp only[aM];exact su hp vs
 |.no=>by simp only[aM]
 |.bool _=>by simp only[aM]
 |.int _ _=>by simp only[aM]
 |.str _=>by simp only[aM]
 |.lf=>by simp only[aM]
 |.gh=>by simp only[aM]
 |.fp _ _ _=>by simp only[aM]
 |.sl _ _ _=>by simp only[aM]
 |.mp _ _ _=>by simp only[aM]
theorem su{p:Nat→Prop}(hp:∀i,p i):∀l:List AV,aG p l
 |[]=>by simp only[aG]
 |v::r=>by simp only[aG];exact⟨HZ hp v,su hp r⟩
end
theorem Vc(s:Nat){n:Nat}{a:Act}{st:St}(k:Ok Z0 w0 O ψ0 Z ψ st.heap.get w)(t:cU Z ψ st.heap.get w n (look st.tmps) a):∃Z',Ok Z0 w0 O ψ0 Z' ψ (P1 s st).heap.get w∧cU Z' ψ (P1 s st).heap.get w n (look (P1 s st).tmps) a:=by
 unfold P1
 split
 ·rename_i m hl
  split
  ·rename_i ty kk xs hg;have g:=k.ed;obtain⟨vs,QR,ti⟩:=g.row m (.row ty kk) xs hg;have hs:∀i o,(st.heap.del m).get i=some o→st.heap.get i=some o:=fun i o hi=>by rw[u4]at hi;by_cases e:i=m<;>simp_all [eC]
   have gg:=g.freeze (Z':=fun b=>Z b∨ob (ψ m)=some b) (h':=(st.heap.del m).get) hs (fun b hb=>.inl hb) (fun b hb=>hb.imp (fun h=>h) (fun hb=>⟨m,by rw[hg];simp,by rw[u4,bA],hb⟩));have n1:Next Z ψ st.heap.get w w0.heap.size O (fun _=>False) (fun b=>Z b∨ob (ψ m)=some b) ψ (st.heap.del m).get w:=⟨fun b hb=>.inl hb,fun b hb=>hb.imp (fun h=>h) (fun hb=>.inl ⟨m,by rw[hg];simp,hb⟩),dh.refl _ _ _,fun i hi=>by obtain⟨o,ho⟩:=acx.1 hi;exact .inl ⟨by rw[hs i o ho];simp,rfl⟩,gg⟩;refine⟨_,k.next (fun id h=>h.elim) n1,⟨fun d=>?_,t.size,t.defers⟩⟩;rw[sr _ rfl];have hr:=t.rep d;by_cases hv:look st.tmps d=.bK m
   ·rw[hv]at hr ⊢;simp only[aC]at hr;have hu:=hr.2 (by rw[hg];simp);simp only[zt,if_true,aC];exact⟨by rw[hu];exact uV QR ti (fun b hb=>.inl hb) (fun b hb=>.inr hb),by simp⟩
   ·have hf:zt m (.sl false kk xs) (look st.tmps d)=look st.tmps d:=by
     unfold zt
     split
     ·split
      ·rename_i i hi e;subst e;exact absurd hi hv
      ·rename_i i hi e;exact hi.symm
     ·rfl
    rw[hf];exact n1.rep g (HZ (fun _ h=>h) _) hr
  ·exact⟨Z,k,t⟩
 ·exact⟨Z,k,t⟩
theorem QS{n:Nat}{a:Act}(o:Option Shape){st:St}(k:Ok Z0 w0 O ψ0 Z ψ st.heap.get w)(t:cU Z ψ st.heap.get w n (look st.tmps) a):∃Z',Ok Z0 w0 O ψ0 Z' ψ (Hh o st).heap.get w∧cU Z' ψ (Hh o st).heap.get w n (look (Hh o st).tmps) a:=by
 unfold Hh
 split
 ·rename_i sh;generalize sh.rows=l
  induction l generalizing Z st with
  |nil=>exact⟨Z,k,t⟩
  |cons p r ih =>obtain⟨Z1,k1,t1⟩:=Vc p.1 k t;exact ih k1 t1
 ·exact⟨Z,k,t⟩
theorem rh(V:Env P Eqs Sg F)(hm:P.follows .mixedOrders=true){n:Nat}{ann:Nat→Option Shape}{J:(sh:Shape)→List Item→sh.T→Option R}{ret:St→Option R}{r:R}{b:Frame}{cs:List Frame}{ug:Act→World→Prop} (hJ:∀sh c k x Z ψ a w,J sh (.inLoop c::k) x=some r→Ok Z0 w0 O ψ0 Z ψ (ar sh x).heap.get w→cU Z ψ (ar sh x).heap.get w n (look (ar sh x).tmps) a→Reach P b cs ug (lone (b.at a (.code c::.inLoop c::k)) cs w)) (sX:∀st Z ψ a w,ret st=some r→Ok Z0 w0 O ψ0 Z ψ st.heap.get w→cU Z ψ st.heap.get w n (look st.tmps) a→ug a w) :
  ∀(fu:Nat) (items:List Item) (st:St) (Z:Nat→Prop) (ψ:Nat→Value) (a:Act) (w:World),aE P Eqs Sg F n ann J ret fu items st=some r→Ok Z0 w0 O ψ0 Z ψ st.heap.get w→cU Z ψ st.heap.get w n (look st.tmps) a → Reach P b cs ug (lone (b.at a items) cs w)
 |0,items,st,Z,ψ,a,w,hx,k,t=>by
  cases items<;>simp only[aE]at hx<;>cases hx
 |fu+1,[],st,Z,ψ,a,w,hx,k,t=>⟨a,w,[],sX st Z ψ a w (by simpa only[aE] using hx) k t,.one step_end⟩
 |fu+1,it::N7,st,Z,ψ,a,w,hx,k,t=>by
  have ih:=rh V hm (ann:=ann) hJ sX fu;have loop:∀c,(match ann (rU c) with
    |none=>none
    |some sh=>match cK sh st with
     |some x=>J sh (.inLoop c::N7) x
     |none=>none)=some r→Reach P b cs ug (lone (b.at a (.code c::.inLoop c::N7)) cs w):=fun c hx=>by
   split at hx
   ·cases hx
   ·rename_i sh hsh
    split at hx
    ·rename_i x hxx;obtain⟨Z',ψ',k',t'⟩:=gu hxx k t;exact hJ sh c N7 x Z' ψ' a w hx k' t'
    ·cases hx
  cases it with
  |inBlock id=>exact .head step_inBlock (ih N7 st Z ψ a w (by simpa only[aE] using hx) k t)
  |inScope c=>exact .head step_inScope (ih N7 st Z ψ a w (by simpa only[aE] using hx) k t)
  |inLoop c=>exact .head step_inLoop (loop c (by simp only[aE]at hx;exact hx))
  |code c =>
   cases c with
   |skip=>exact .head step_skip (ih N7 st Z ψ a w (by simpa only[aE] using hx) k t)
   |label l=>exact .head step_label (ih N7 st Z ψ a w (by simpa only[aE] using hx) k t)
   |seq x y=>exact .head step_seq (ih _ st Z ψ a w (by simpa only[aE] using hx) k t)
   |cond c x y =>
    simp only[aE]at hx
    split at hx
    ·rename_i tt ht;have h1:=q8 t c;rw[ht]at h1;simp only[aC]at h1
     cases tt with
     |true=>exact .head (step_cond h1) (ih _ st Z ψ a w hx k t)
     |false=>exact .head (step_cond h1) (ih _ st Z ψ a w hx k t)
    ·cases hx
   |scope c=>exact .head step_scope (ih _ st Z ψ a w (by simpa only[aE] using hx) k t)
   |block id c=>exact .head step_block (ih _ st Z ψ a w (by simpa only[aE] using hx) k t)
   |loop c =>
    simp only[aE]at hx
    cases fu with
    |zero=>simp only[aE]at hx;cases hx
    |succ fu=>exact .head step_loop (loop c (by simp only[aE]at hx;exact hx))
   |exit id =>
    simp only[aE]at hx
    split at hx
    ·rename_i k' hk;exact .head (step_exit hk) (ih _ st Z ψ a w hx k t)
    ·cases hx
   |ret=>exact⟨a,w,_,sX st Z ψ a w (by simpa only[aE] using hx) k t,.one step_ret⟩
   |region id ops draw =>simp only[aE]at hx;obtain⟨Zf,k,t⟩:=QS (ann (500000+id)) k t;have hw:=FP V hm (Q:=fun e a w=>e=.normal∧∃eQ Z ψ,aE P Eqs Sg F n ann J ret fu N7 eQ=some r∧Ok Z0 w0 O ψ0 Z ψ eQ.heap.get w∧cU Z ψ eQ.heap.get w n (look eQ.tmps) a) hx k t (fun eQ Z ψ a w h1 h2 h3=>⟨rfl,eQ,Z,ψ,h1,h2,h3⟩);obtain⟨e,a',w',⟨rfl,eQ,Z',ψ',h1,h2,h3⟩,Qt⟩:=hw b N7 cs;exact .steps Qt (ih N7 eQ Z' ψ' a' w' h1 h2 h3)
   |_=>simp only[aE]at hx;cases hx
  |_=>simp only[aE]at hx;cases hx
theorem ri{hh:Heap}{n:Nat}{s:List (Nat×AV)}{a:Act}(g:Good Z ψ hh.get w B0 O)(t:cU Z ψ hh.get w n (look s) a):∀(l:List ResultVar) (acc:Array Value) (vs:List AV),yr P hh s l=some vs → ∃us,(l.foldlM (fun(bs:Array Value) r=>do let y ←(match r with | .tmp t=>pure (a.tmps.getD t undef) | .cell p ty=>do loadVar ty (←asAddr (a.tmps.getD p undef)):Sem Value);pure (bs.push y)) acc:Sem (Array Value)).run P w=.ok (acc++us.toArray) w∧aq Z ψ hh.get w vs us
 |[],acc,vs,hx=>by
  simp only[yr]at hx
  cases hx
  exact⟨[],by simp,by simp only[aq]⟩
 |.tmp d::l,acc,vs,hx=>by
  simp only[yr]at hx
  split at hx
  ·rename_i hY h1
   cases hx
   obtain⟨us,h2,h3⟩:=ri g t l (acc.push (a.tmps.getD d undef)) hY h1;refine⟨a.tmps.getD d undef::us,?_,by simp only[aq];exact⟨_,_,rfl,t.rep d,h3⟩⟩;simp only[List.foldlM_cons,Sem.run_bind,Sem.run_pure,Result.andThen_ok];rw[h2];simp
  ·cases hx
 |.cell d ty::l,acc,vs,hx=>by
  simp only[yr]at hx
  split at hx
  ·rename_i id sz off hd
   split at hx
   ·rename_i bt cs hg
    split at hx
    ·rename_i v hY hv h1
     cases hx
     have h4:=t.rep d;rw[hd]at h4;simp only[aC]at h4;obtain⟨ad,h5,h6⟩:=h4;obtain⟨gg,ws,e1,e2,e3,e4⟩:=g.box id bt cs hg;have h7:=h6 (by rw[hg];simp);rw[e1]at h7;simp only[UD,Nat.zero_mul,Nat.zero_add]at h7;subst h7;obtain⟨V,h8,h9⟩:=jQ (a:=⟨gg,off,none⟩) (e3.drop off) (fun j u hu=>by rw[cT];simp only[World.cell?,e2];rw[List.getElem?_drop]at hu;simpa using hu) hv;have nG:(loadVar ty ⟨gg,off,none⟩).run P w=.ok V w:=by have:=h8;simpa[Instr.loadAt,Instr.sureAddr] using this
     obtain⟨us,h2,h3⟩:=ri g t l (acc.push V) hY h1;refine⟨V::us,?_,by simp only[aq];exact⟨_,_,rfl,h9,h3⟩⟩;have zw:(asAddr (a.tmps.getD d undef)).run P w=.ok ⟨gg,off,none⟩ w:=by rw[h5];rfl
     simp only[List.foldlM_cons,Sem.run_bind,zw,Sem.run_pure,Result.andThen_ok,nG];rw[h2];simp
    ·cases hx
   ·cases hx
  ·cases hx
theorem H3{fn:Func}{hh:Heap}{n:Nat}{s:List (Nat×AV)}{a:Act}{vs:List AV}(g:Good Z ψ hh.get w B0 O)(t:cU Z ψ hh.get w n (look s) a)(hx:yr P hh s fn.results.toList=some vs) :
  ∃us v,(results fn a.tmps).run P w=.ok v w∧aq Z ψ hh.get w vs us∧v=(if us.length=1 then us.headD undef else .tuple us.toArray):=by
 obtain⟨us,h1,h2⟩:=ri (P:=P) g t fn.results.toList #[] vs hx;refine⟨us,_,?_,h2,rfl⟩;have h3:(fn.results.mapM fun r=>(match r with | .tmp t=>pure (a.tmps.getD t undef) | .cell p ty=>do loadVar ty (←asAddr (a.tmps.getD p undef)):Sem Value)).run P w=.ok us.toArray w:=by rw[Array.mapM_eq_foldlM,←Array.foldlM_toList];simpa using h1
 have h4:results fn a.tmps=(do
   let vs ←fn.results.mapM fun r=>(match r with | .tmp t=>pure (a.tmps.getD t undef) | .cell p ty=>do loadVar ty (←asAddr (a.tmps.getD p undef)):Sem Value)
   pure (if h:vs.size=1 then vs[0] else .tuple vs)):=rfl
 rw[h4,Sem.run_bind,h3,Result.andThen_ok,Sem.run_pure];congr 1;by_cases h5:us.length=1
 ·obtain⟨u,rfl⟩:=List.length_eq_one_iff.1 h5;simp
 ·rw[dif_neg (by simpa using h5),if_neg h5]
theorem gx:∀(ps:List PK) (ids:List Nat) (s:Nat) (x:Hd (kR ps)) (us:List Value),aq Z ψ h w ((aZ ps ids s x).map (·.2)) us→us.length=ps.length∧∀p∈aZ ps ids s x,∃j u,p.1=s+j∧us[j]? = some u∧aC Z ψ h w p.2 u
 |[],ids,s,x,us,hr=>by simp only[aZ,List.map_nil,aq]at hr;subst hr;exact⟨rfl,fun p hp=>by simp[aZ]at hp⟩
 |.val k::ps,ids,s,x,us,hr=>by
  simp only[aZ,List.map_cons,aq]at hr;obtain⟨u,je,rfl,h1,h2⟩:=hr;obtain⟨h3,h4⟩:=gx ps ids (s+1) x.2 je h2;refine⟨by simp[h3],fun p hp=>?_⟩;simp only[aZ]at hp;rcases aa1.1 hp with rfl|hp
  ·exact⟨0,u,rfl,rfl,h1⟩
  ·obtain⟨j,u',h5,h6,h7⟩:=h4 p hp;exact⟨j+1,u',by omega,by simpa using h6,h7⟩
 |.ref::ps,i::ids,s,x,us,hr=>by
  simp only[aZ,List.map_cons,aq]at hr;obtain⟨u,je,rfl,h1,h2⟩:=hr;obtain⟨h3,h4⟩:=gx ps ids (s+1) x je h2;refine⟨by simp[h3],fun p hp=>?_⟩;simp only[aZ]at hp;rcases aa1.1 hp with rfl|hp
  ·exact⟨0,u,rfl,rfl,h1⟩
  ·obtain⟨j,u',h5,h6,h7⟩:=h4 p hp;exact⟨j+1,u',by omega,by simpa using h6,h7⟩
 |.ref::ps,[],s,x,us,hr=>by
  simp only[aZ,List.map_cons,aq]at hr;obtain⟨u,je,rfl,h1,h2⟩:=hr;obtain⟨h3,h4⟩:=gx ps [] (s+1) x je h2;refine⟨by simp[h3],fun p hp=>?_⟩;simp only[aZ]at hp;rcases aa1.1 hp with rfl|hp
  ·exact⟨0,u,rfl,rfl,h1⟩
  ·obtain⟨j,u',h5,h6,h7⟩:=h4 p hp;exact⟨j+1,u',by omega,by simpa using h6,h7⟩
 |.own::ps,i::ids,s,x,us,hr=>by
  simp only[aZ,List.map_cons,aq]at hr;obtain⟨u,je,rfl,h1,h2⟩:=hr;obtain⟨h3,h4⟩:=gx ps ids (s+1) x je h2;refine⟨by simp[h3],fun p hp=>?_⟩;simp only[aZ]at hp;rcases aa1.1 hp with rfl|hp
  ·exact⟨0,u,rfl,rfl,h1⟩
  ·obtain⟨j,u',h5,h6,h7⟩:=h4 p hp;exact⟨j+1,u',by omega,by simpa using h6,h7⟩
 |.own::ps,[],s,x,us,hr=>by
  simp only[aZ,List.map_cons,aq]at hr;obtain⟨u,je,rfl,h1,h2⟩:=hr;obtain⟨h3,h4⟩:=gx ps [] (s+1) x je h2;refine⟨by simp[h3],fun p hp=>?_⟩;simp only[aZ]at hp;rcases aa1.1 hp with rfl|hp
  ·exact⟨0,u,rfl,rfl,h1⟩
  ·obtain⟨j,u',h5,h6,h7⟩:=h4 p hp;exact⟨j+1,u',by omega,by simpa using h6,h7⟩
 |.G5 f m::ps,ids,s,x,us,hr=>by
  simp only[aZ,List.map_cons,aq]at hr;obtain⟨u,je,rfl,h1,h2⟩:=hr;obtain⟨h3,h4⟩:=gx ps (ids.drop m) (s+1) x je h2;refine⟨by simp[h3],fun p hp=>?_⟩;simp only[aZ]at hp;rcases aa1.1 hp with rfl|hp
  ·exact⟨0,u,rfl,rfl,h1⟩
  ·obtain⟨j,u',h5,h6,h7⟩:=h4 p hp;exact⟨j+1,u',by omega,by simpa using h6,h7⟩
 |.agg m::ps,ids,s,x,us,hr=>by
  simp only[aZ,List.map_cons,aq]at hr;obtain⟨u,je,rfl,h1,h2⟩:=hr;obtain⟨h3,h4⟩:=gx ps (ids.drop m) (s+1) x je h2;refine⟨by simp[h3],fun p hp=>?_⟩;simp only[aZ]at hp;rcases aa1.1 hp with rfl|hp
  ·exact⟨0,u,rfl,rfl,h1⟩
  ·obtain⟨j,u',h5,h6,h7⟩:=h4 p hp;exact⟨j+1,u',by omega,by simpa using h6,h7⟩
section
variable {An:FuncId→Nat→Option Shape}
theorem BF(V:Env P Eqs Sg F)(hm:P.follows .mixedOrders=true){f:FuncId}{g:aS}{fn:Func}{y:g.B}{b:Frame}{cs:List Frame}{ug:Act→World→Prop} (sX:∀st Z ψ a w,qT P g fn st=some y→Ok Z0 w0 O ψ0 Z ψ st.heap.get w→cU Z ψ st.heap.get w fn.ntmps (look st.tmps) a→ug a w) :
  ∀(n:Nat) (sh:Shape) (c:Code) (k:List Item) (x:sh.T) (Z:Nat→Prop) (ψ:Nat→Value) (a:Act) (w:World),mM P Eqs Sg An F f g fn n sh (.inLoop c::k) x=some y → Ok Z0 w0 O ψ0 Z ψ (ar sh x).heap.get w→cU Z ψ (ar sh x).heap.get w fn.ntmps (look (ar sh x).tmps) a→Reach P b cs ug (lone (b.at a (.code c::.inLoop c::k)) cs w)
 |0,sh,c,k,x,Z,ψ,a,w,hx,_,_=>by simp only[mM]at hx;cases hx
 |n+1,sh,c,k,x,Z,ψ,a,w,hx,ko,t=>by simp only[mM]at hx;exact rh V hm (fun sh c k x Z ψ a w h1 h2 h3=>BF V hm sX n sh c k x Z ψ a w h1 h2 h3) sX fuel _ _ Z ψ a w hx ko t
theorem FQ{n i:Nat}(h:i∈aU n):∃j,j<n∧i=1000+20*j:=by unfold aU at h;obtain⟨j,h1,rfl⟩:=adD.1 h;exact⟨j,adP.1 h1,rfl⟩
theorem QT{α:Type}{l:List α}{a:α}(h:a∈l):(a,a)∈l.zip l:=by
 induction l with
 |nil=>cases h
 |cons b r ih =>
  simp only[List.zip_cons_cons];rcases aa1.1 h with rfl|h
  ·exact acr
  ·exact aaY _ (ih h)
theorem KO(V:Env P Eqs Sg F)(hm:P.follows .mixedOrders=true){f:FuncId}{g:aS}{n:Nat}{x:g.A}{y:g.B}(hx:Kf P Eqs Sg An F f g n x=some y):Ej P f g x y:=by
 intro Z ψ0 w kr hg hr;unfold Kf at hx
 split at hx
 ·cases hx
 rename_i fn c WU;have hf:P.funcs[f%1000]? = some fn∧fn.body=some c:=by
  unfold body at WU;obtain⟨fn',h1,h2⟩:=adH.1 WU;obtain⟨c',h3,h4⟩:=adJ.1 h2
  cases h4
  exact⟨h1,h3⟩
 split at hx
 ·rename_i hle;simp only[Bool.and_eq_true,decide_eq_true_eq]at hle;obtain⟨hlen,Yo⟩:=gx g.ps (aU g.bs.length) 0 x.1 kr hr;intro cs
  let b:Frame:={ (default:Frame) with fn:=f%1000,kind:=.normal }
  let a0:Act:={ tmps:=kr.toArray++Array.replicate (fn.ntmps-kr.toArray.size) undef,defers:=[] }
  have Yp:Frame.enter P (f%1000) kr.toArray .normal=b.at a0 [.code c]:=by simp[Frame.enter,Frame.at,hf.1,hf.2,b,a0]
  have ok0:Ok Z w (Own ψ0 (pM g x)) ψ0 Z ψ0 (entry g x).heap.get w :=⟨hg,fun _ h=>h,fun _ h=>.inl h,rfl,rfl,rfl,ada _,fun _ _ _=>rfl,fun _ _ _=>rfl⟩;have tr0:cU Z ψ0 (entry g x).heap.get w fn.ntmps (look (entry g x).tmps) a0:=by
   refine fb (fun p hp=>?_) (by simp[a0];omega) rfl;obtain⟨j,u,h1,h2,h3⟩:=Yo p hp;rw[h1];have hj:j<kr.length:=(aaW.1 h2).1;have:a0.tmps.getD (0+j) undef=u:=by rw[Nat.zero_add,Array.getD_eq_getD_getElem?];simp only[a0];rw[Array.getElem?_append_left (by simpa using hj)];simp[h2]
   rw[this];exact h3
  have sX:∀st Z1 nW a w1,qT P g fn st=some y→Ok Z w (Own ψ0 (pM g x)) ψ0 Z1 nW st.heap.get w1→cU Z1 nW st.heap.get w1 fn.ntmps (look st.tmps) a → a.defers=[]∧∃v,(results fn a.tmps).run P w1=.ok v w1∧∃v' Z' ψ',Ending.returned v=.returned v'∧(∀b,Z b→Z' b)∧(∀b,Z' b→Z b∨Own ψ0 (pM g x) b∨w.heap.size≤b)∧dh ψ0 (pM g x) w w1 ∧ Good Z' ψ' (jV g y).get w1 w.heap.size (Own ψ0 (pM g x))∧(∀i∈aU g.bs.length,ψ' i=ψ0 i)∧aC Z' ψ' (jV g y).get w1 (fi (bf g.rs (aU g.bs.length) 2000 3000 y.1)) v':=by
   intro st Z1 nW a w1 sX k t;refine⟨t.defers,?_⟩;unfold qT at sX
   split at sX
   ·cases sX
   rename_i vs tR
   split at sX
   ·rename_i y1 y2 hd hb DH
    cases sX
    simp only[Bool.and_eq_true]at DH;obtain⟨HY,Bn⟩:=DH;obtain⟨us,v,h1,h2,h3⟩:=H3 (P:=P) k.ed t tR;have WT:(aU g.bs.length).length=g.bs.length:=by simp[aU]
    let L:List yG:=cF g.bs st.heap (aU g.bs.length) (aU g.bs.length) 2000 y2++cI g.rs vs 3000 y1
    have eH:dJ L=jV g (y1,y2):=by show dJ (_++_)=_;rw[mW,jo _ _ _ _ _ _ hb WT,gK];rfl
    have eN:L.map (·.1)=qH g:=by show(_++_:List yG).map _=_;rw[List.map_append,hM _ _ _ _ _ _ hb WT,fP];rfl
    have eS:L.filterMap (·.2.1)=dg g.bs st.heap (aU g.bs.length)++dU g.rs vs:=by show(_++_:List yG).filterMap _=_;rw[List.filterMap_append,km _ _ _ _ _ _ hb WT,iQ _ _ _ _ hd]
    have hn:ck (L.map (·.1))=true:=by rw[eN];exact Bn
    have ji:=z6 (ψ:=nW) hn;have hz:∀b,Z1 b→qE Z1 nW st.heap.get (gj g.rs vs++gi g.bs st.heap (aU g.bs.length)) b:=fun b hb=>.inl hb;have J4:=(so HY).2 st.heap;have g':Good (qE Z1 nW st.heap.get (gj g.rs vs++gi g.bs st.heap (aU g.bs.length))) (fa nW L) (dJ L).get w1 w.heap.size (Own ψ0 (pM g x)):=by
     refine wZ k.ed HY hn eS fun e he=>?_;rcases acw.1 he with he|he
     ·exact lW k.ed hz g.bs _ _ 2000 y2 hb (fun id b bR h1 h2=>.inr ⟨id,aco _ bR,h1,h2⟩) (fun s hs=>J4 s (aa2 _ hs)) (fun e he=>ji e (aa2 _ he)) e he
     ·exact jU g.rs vs 3000 y1 hd (fun s hs=>J4 s (aco _ hs)) e he
    obtain⟨Eu,Bp⟩:=jq _ _ _ hb;have PJ:=sq (ids2:=aU g.bs.length) (Z':=qE Z1 nW st.heap.get (gj g.rs vs++gi g.bs st.heap (aU g.bs.length))) (ψ':=fa nW L) (h':=(dJ L).get) k.ed hz hb WT (fun e he=>ji e (aa2 _ he)) g.rs vs 3000 y1 us hd (fun id b bR h1 h2=>.inr ⟨id,aa2 _ bR,h1,h2⟩) (fun e he=>ji e (aco _ he)) h2;refine⟨v,h1,v,qE Z1 nW st.heap.get (gj g.rs vs++gi g.bs st.heap (aU g.bs.length)),fa nW L,rfl,fun b hb=>.inl (k.fV b hb),fun b hb=>?_,⟨k.os,k.tape,k.output,k.size,k.block⟩,by rw[←eH];exact g',fun i hi=>?_,?_⟩
    ·rcases Mf hb with h4|⟨id,h4,h5⟩
     ·exact k.eR b h4
     ·exact .inr (k.ed.live id b h4 h5).2.symm
    ·obtain⟨o,ho⟩:=kq (hh:=st.heap) g.bs (aU g.bs.length) (aU g.bs.length) 2000 y2 Eu (i,i) (QT hi);rw[iP hn (List.mem_append_left _ ho)];obtain⟨j,h4,h5⟩:=FQ hi;exact k.fix i (by omega) (Bp i hi)
    ·rw[←eH];have P6:us.length=(bf g.rs (aU g.bs.length) 2000 3000 y1).length:=PJ.length.symm;rw[h3]
     match hE:bf g.rs (aU g.bs.length) 2000 3000 y1,us,PJ,P6 with
     |[],[],PJ,_=>simp only[fi];simp only[aC];exact⟨#[],rfl,by simpa using PJ⟩
     |[e1],[u],PJ,_ =>
      simp only[aq]at PJ;obtain⟨u',je,he,h4,_⟩:=PJ
      cases he
      simpa[fi] using h4
     |e1::e2::er,u1::u2::ur,PJ,_ =>simp only[fi,aC];exact⟨(u1::u2::ur).toArray,by simp,by simpa using PJ⟩
   ·cases sX
  have reach:=rh V hm (b:=b) (cs:=cs) (fun sh c k x Z ψ a w h1 h2 h3=>BF V hm sX n sh c k x Z ψ a w h1 h2 h3) sX fuel _ _ Z ψ0 a0 w hx ok0 tr0;obtain⟨a',w',todo,⟨hd,v,vu,hR⟩,hs⟩:=reach;rw[←Yp]at hs;exact⟨.returned v,w',_,hR,hs,rfl,rfl,hd,rfl,fn,hf.1,vu⟩
 ·cases hx
end
theorem H4(hX:∀f g u,Sg f=some g→g.x=some u→iF P (f%1000) u){G:(f:FuncId)→(g:aS)→Option (g.A→Option g.B)}{An:FuncId→Nat→Option Shape}(Du:∀t k,Eqs t=some k→lS P t k)(NT:∀f g,Sg f=some g→jr P (f%1000))(hm:P.follows .mixedOrders=true) (hG:∀f g u x y,Sg f=some g→G f g=some u→u x=some y→Ej P f g x y):∀(m:Nat) f g x y,Sg f=some g→Fn P Eqs Sg An G m f g x=some y→Ej P f g x y
 |0,f,g,x,y,hs,hx=>by
  simp only[Fn]at hx
  split at hx
  ·rename_i u hu;exact hG f g u x y hs hu hx
  ·cases hx
 |m+1,f,g,x,y,hs,hx=>by
  simp only[Fn]at hx
  split at hx
  ·rename_i u hu;exact hG f g u x y hs hu hx
  ·exact KO ⟨Du,fun f g x y h1 h2=>H4 hX Du NT hm hG m f g x y h1 h2,hX,NT⟩ hm hx
end Go.Vs
namespace Go.Vs
abbrev FT:=(f:FuncId)→(g:aS)→g.A→Option g.B
variable {P:Program} {Eqs:TypeId→Option K} {Sg:FuncId→Option aS} {R:Type}
def uL(p:Nat→Prop):Prop:=∃m,∀m',m≤m'→p m'
theorem uL.now{p:Nat→Prop}(h:∀m,p m):uL p:=⟨0,fun m _=>h m⟩
theorem uL.and{p q r:Nat→Prop}(h:uL p)(k:uL q)(hr:∀m,p m→q m→r m):uL r:=by obtain⟨a,ha⟩:=h;obtain⟨b,hb⟩:=k;exact⟨max a b,fun m hm=>hr m (ha m (by omega)) (hb m (by omega))⟩
theorem uL.imp{p r:Nat→Prop}(h:uL p)(hr:∀m,p m→r m):uL r:=by obtain⟨a,ha⟩:=h;exact⟨a,fun m hm=>hr m (ha m hm)⟩
def To(A:Nat→FT)(L:FT):Prop:=∀f g x y,L f g x=some y→uL fun m=>A m f g x=some y
def ToK{α:Type}(A:Nat→α→Option R)(L:α→Option R):Prop:=∀x y,L x=some y→uL fun m=>A m x=some y
def ToJ(A:Nat→(sh:Shape)→List Item→sh.T→Option R)(L:(sh:Shape)→List Item→sh.T→Option R):Prop:=∀sh k x y,L sh k x=some y→uL fun m=>A m sh k x=some y
theorem QU(h:Heap)(id:Nat)(f:FuncId)(vs:List AV):(∀F F':FT,jm Sg F h id f vs some=jm Sg F' h id f vs some) ∨ ∃ff g x,(∀F F':FT,F ff g x=F' ff g x→jm Sg F h id f vs some=jm Sg F' h id f vs some)∧∀F:FT,F ff g x=none→jm Sg F h id f vs some=none:=by
 unfold jm
 split
 ·exact .inl fun _ _=>rfl
 rename_i g hg
 split
 ·exact .inl fun _ _=>rfl
 split
 ·split
  ·split
   ·rename_i x b hx hb hp;refine .inr ⟨_,g,(x,b),fun F F' e=>by rw[e],fun F e=>by rw[e];rfl⟩
   ·exact .inl fun _ _=>rfl
  ·split
   ·rename_i x b hx hb hp;refine .inr ⟨_,g,(x,b),fun F F' e=>by rw[e],fun F e=>by rw[e];rfl⟩
   ·exact .inl fun _ _=>rfl
 ·exact .inl fun _ _=>rfl
theorem Vd{A:Nat→FT}{L:FT}(hA:To A L){h:Heap}{id:Nat}{f:FuncId}{vs:List AV}{e:bL}(he:jm Sg L h id f vs some=some e):uL fun m=>jm Sg (A m) h id f vs some=some e:=by
 rcases QU (Sg:=Sg) h id f vs with k|⟨ff,g,x,k1,k2⟩
 ·exact .now fun m=>(k _ _).trans he
 ·cases hy:L ff g x with
  |none=>rw[k2 L hy]at he;cases he
  |some y=>exact(hA _ _ _ _ hy).imp fun m hm=>(k1 (A m) L (hm.trans hy.symm)).trans he
theorem H5{A:Nat→FT}{L:FT}(hA:To A L){id:Nat}{h:Heap}{s:List (Nat×AV)}{o:Oper}{e:bL}(he:cZ P Eqs Sg L id h s o some=some e):uL fun m=>cZ P Eqs Sg (A m) id h s o some=some e:=by
 obtain⟨dst,op,type,pos,after,guard⟩:=o
 cases op with
 |call c =>
  obtain⟨callee,args,argTypes⟩:=c
  cases callee with
  |value f =>
   simp only[cZ]at he
   split at he
   ·rename_i f' cap hf;refine(Vd hA he).imp fun m hm=>?_;simp only[cZ,hf];exact hm
   ·cases he
  |builtin bi=>cases bi<;>exact .now fun m=>he
  |invoke _ _=>exact .now fun m=>he
 |unOp u _ _=>cases u<;>exact .now fun m=>he
 |makeFunc fn _ _=>cases fn<;>exact .now fun m=>he
 |makeMap _ r=>cases r<;>exact .now fun m=>he
 |next _ b=>cases b<;>exact .now fun m=>he
 |_=>exact .now fun m=>he
theorem uL.all{p:Nat→Nat→Prop}:∀(n:Nat),(∀j,j<n→uL (p j))→uL fun m=>∀j,j<n→p j m
 |0,_=>.now fun m j hj=>absurd hj (Nat.not_lt_zero _)
 |n+1,h=>(uL.all n fun j hj=>h j (by omega)).and (h n (by omega)) fun m h1 h2 j hj=>by
  by_cases e:j=n
  ·subst e;exact h2
  ·exact h1 j (by omega)
theorem KP{h:Heap}{x:AV}{K:Nat→AV→Heap→Option R}{KL:AV→Heap→Option R}(hK:∀v h y,KL v h=some y→uL fun m=>K m v h=some y){r:R}(he:lh h x KL=some r):uL fun m=>lh h x (K m)=some r:=by
 unfold lh at he ⊢
 split at he
 ·rename_i id
  split at he
  ·rename_i kk vk p hg
   try simp only[hg]
   cases hp:p.2 with
   |nil =>simp only[hp,List.isEmpty_nil,cond_true]at he ⊢;exact hK _ _ _ he
   |cons c l =>simp only[hp,List.isEmpty_cons,cond_false]at he ⊢;have h1:=oz he;refine(uL.all _ fun j hj=>?_).imp fun m hm=>nc (by simp) hm;have h2:=h1 j hj;rw[List.getElem?_eq_getElem hj]at h2 ⊢;simp only[Option.bind_some]at h2 ⊢;exact hK _ _ _ h2
  ·cases he
 ·cases he
theorem QV{h:Heap}{x:AV}{want:Bool}{K:Nat→AV→Option R}{KL:AV→Option R}(hK:∀v y,KL v=some y→uL fun m=>K m v=some y){r:R}(he:uS h x want KL=some r):uL fun m=>uS h x want (K m)=some r:=by
 unfold uS at he ⊢
 split at he
 ·exact hK _ _ he
 ·rename_i xs hv
  cases yy:xs.isEmpty with
  |true =>simp only[yy,cond_true]at he ⊢;have h1:=oz he;exact(uL.all _ fun j hj=>hK _ _ (h1 j hj)).imp fun m hm=>nc (by decide) hm
  |false =>simp only[yy,cond_false]at he ⊢;exact hK _ _ he
 ·cases he
theorem BG{A:Nat→FT}{L:FT}(hA:To A L){rid:Nat}{draw:Bool}{ops:Array Oper}{b:Array Nat}{K:Nat→St→Option R}{KL:St→Option R}(hK:ToK K KL) :
  ∀(l:List (Nat×Oper)) (st:St) (r:R),bG P Eqs Sg L rid draw ops b l st KL=some r→uL fun m=>bG P Eqs Sg (A m) rid draw ops b l st (K m)=some r
 |[],st,r,he=>hK st r (by simpa only[bG] using he)
 |(i,o)::l,st,r,he=>by
  have ih:=BG hA (rid:=rid) (draw:=draw) (ops:=ops) (b:=b) hK l;have run:∀st:St,(match (if draw then none else pj P (opId rid i) st o) with
    |some eQ=>bG P Eqs Sg L rid draw ops b l eQ KL
    |none=>match (if draw then none else uR o) with
    |some x=>lh st.heap (ρ st.tmps x) fun v h=>bG P Eqs Sg L rid draw ops b l (({ st with heap:=h }:St).put o.dst v) KL
    |none=>match (if draw then none else isNil P o) with
    |some (x,want)=>uS st.heap (ρ st.tmps x) want fun v=>bG P Eqs Sg L rid draw ops b l (st.put o.dst v) KL
    |none=>if draw then cZ P Eqs Sg L (opId rid i) (g8 (ahead rid (b.getD i 0) st.heap) (gW ops b i st.tmps o)) st.tmps o fun e =>
     if(gS true rid ops b i (b.getD i 0) (gX (gW ops b i st.tmps o) (ahead rid (b.getD i 0) st.heap) e)&&lO (gW ops b i st.tmps o) e)=true then
      bG P Eqs Sg L rid draw ops b l ({ st with heap:=match gX (gW ops b i st.tmps o) (ahead rid (b.getD i 0) st.heap) e with | .wr _ h=>h|e=>e.h st.heap }.put o.dst e.v) KL else none
     else cZ P Eqs Sg L (opId rid i) st.heap st.tmps o fun e =>
     if gS false rid ops b i (2 ^ i-1) e then bG P Eqs Sg L rid draw ops b l ({ st with heap:=match e with | .wr _ h=>h|e=>e.h st.heap }.put o.dst e.v) KL else none)=some r →
    uL fun m=>(match (if draw then none else pj P (opId rid i) st o) with
    |some eQ=>bG P Eqs Sg (A m) rid draw ops b l eQ (K m)
    |none=>match (if draw then none else uR o) with
    |some x=>lh st.heap (ρ st.tmps x) fun v h=>bG P Eqs Sg (A m) rid draw ops b l (({ st with heap:=h }:St).put o.dst v) (K m)
    |none=>match (if draw then none else isNil P o) with
    |some (x,want)=>uS st.heap (ρ st.tmps x) want fun v=>bG P Eqs Sg (A m) rid draw ops b l (st.put o.dst v) (K m)
    |none=>if draw then cZ P Eqs Sg (A m) (opId rid i) (g8 (ahead rid (b.getD i 0) st.heap) (gW ops b i st.tmps o)) st.tmps o fun e =>
     if(gS true rid ops b i (b.getD i 0) (gX (gW ops b i st.tmps o) (ahead rid (b.getD i 0) st.heap) e)&&lO (gW ops b i st.tmps o) e)=true then
      bG P Eqs Sg (A m) rid draw ops b l ({ st with heap:=match gX (gW ops b i st.tmps o) (ahead rid (b.getD i 0) st.heap) e with | .wr _ h=>h|e=>e.h st.heap }.put o.dst e.v) (K m) else none
     else cZ P Eqs Sg (A m) (opId rid i) st.heap st.tmps o fun e =>
     if gS false rid ops b i (2 ^ i-1) e then bG P Eqs Sg (A m) rid draw ops b l ({ st with heap:=match e with | .wr _ h=>h|e=>e.h st.heap }.put o.dst e.v) (K m) else none)=some r:=by
   intro st h
   split at h
   ·rename_i eQ oy
    try simp only[oy]
    exact ih _ r h
   rename_i oy
   split at h
   ·rename_i x Eo
    try simp only[oy,Eo]
    exact KP (fun v h y hy=>ih _ y hy) h
   rename_i Eo
   split at h
   ·rename_i x want hnl
    try simp only[oy,Eo,hnl]
    exact QV (fun v y hy=>ih _ y hy) h
   rename_i hnl
   try simp only[oy,Eo,hnl]
   cases draw with
   |true =>
    simp only[if_true]at h ⊢;rw[lA]at h;obtain⟨e,h1,h2⟩:=adH.1 h;by_cases hc:(gS true rid ops b i (b.getD i 0) (gX (gW ops b i st.tmps o) (ahead rid (b.getD i 0) st.heap) e)&&lO (gW ops b i st.tmps o) e)=true
    ·rw[if_pos hc]at h2;refine(H5 hA h1).and (ih _ r h2) fun m h3 h4=>?_;rw[lA,h3,Option.bind_some,if_pos hc];exact h4
    ·rw[if_neg hc]at h2;cases h2
   |false =>
    simp only[Bool.false_eq_true,if_false]at h ⊢;rw[lA]at h;obtain⟨e,h1,h2⟩:=adH.1 h;by_cases hc:gS false rid ops b i (2 ^ i-1) e=true
    ·rw[if_pos hc]at h2;refine(H5 hA h1).and (ih _ r h2) fun m h3 h4=>?_;rw[lA,h3,Option.bind_some,if_pos hc];exact h4
    ·rw[if_neg hc]at h2;cases h2
  simp only[bG]at he ⊢
  split at he
  ·rename_i hg
   try simp only[hg]
   exact run _ he
  ·rename_i j want hg
   try simp only[hg]
   split at he
   ·cases he
   ·rename_i d hd
    try simp only[hd]
    split at he
    ·rename_i t ht
     try simp only[ht]
     cases t<;>cases want<;>simp only[cond_true,cond_false,if_true,if_false,Bool.false_eq_true]at he ⊢<;>first|exact run _ he|exact ih _ r he
    ·rename_i ht
     try simp only[ht]
     exact ih _ r he
    ·cases he
theorem DN{A:Nat→FT}{L:FT}(hA:To A L){n rid:Nat}{ops:Array Oper}{draw:Bool}{K:Nat→St→Option R}{KL:St→Option R}(hK:ToK K KL){st:St}{r:R} (he:iA P Eqs Sg L n rid ops draw st KL=some r):uL fun m=>iA P Eqs Sg (A m) n rid ops draw st (K m)=some r:=by
 unfold iA at he ⊢;by_cases hc:((ops.all fun o=>iz n o)&&(!draw || (uQ ops (if draw then Region.before ops else #[])&&(AO ops (if draw then Region.before ops else #[])&&ck (ops.toList.filterMap (·.dst)))))&&decide (ops.size≤128))=true
 ·dsimp only at he ⊢
  rw[if_pos hc]at he;refine(BG hA hK _ _ r he).imp fun m hm=>?_;rw[if_pos hc];exact hm
 ·dsimp only at he
  rw[if_neg hc]at he;cases he
theorem gM{A:Nat→FT}{L:FT}(hA:To A L){n:Nat}{ann:Nat→Option Shape}{J:Nat→(sh:Shape)→List Item→sh.T→Option R}{JL:(sh:Shape)→List Item→sh.T→Option R}(hJ:ToJ J JL){ret:St→Option R} :
  ∀(fu:Nat) (items:List Item) (st:St) (r:R),aE P Eqs Sg L n ann JL ret fu items st=some r→uL fun m=>aE P Eqs Sg (A m) n ann (J m) ret fu items st=some r
 |0,items,st,r,he=>by cases items<;>simp only[aE]at he<;>cases he
 |fu+1,[],st,r,he=>.now fun m=>by simpa only[aE] using he
 |fu+1,it::N7,st,r,he=>by
  have ih:=gM hA (n:=n) (ann:=ann) hJ (ret:=ret) fu
  cases it with
  |inBlock id=>simp only[aE]at he ⊢;exact ih _ _ _ he
  |inScope c=>simp only[aE]at he ⊢;exact ih _ _ _ he
  |inLoop c =>
   simp only[aE]at he ⊢
   split at he
   ·cases he
   ·rename_i sh hsh
    try simp only[hsh]
    split at he
    ·rename_i x hx
     try simp only[hx]
     exact hJ _ _ _ _ he
    ·cases he
  |code c =>
   cases c with
   |cond c x y =>
    simp only[aE]at he ⊢
    split at he
    ·rename_i t ht
     try simp only[ht]
     cases t<;>simp only[cond_true,cond_false]at he ⊢<;>exact ih _ _ _ he
    ·cases he
   |exit id =>
    simp only[aE]at he ⊢
    split at he
    ·rename_i k' hk
     try simp only[hk]
     exact ih _ _ _ he
    ·cases he
   |ret=>exact .now fun m=>by simpa only[aE] using he
   |region id ops draw =>simp only[aE]at he ⊢;exact DN hA (K:=fun m eQ=>aE P Eqs Sg (A m) n ann (J m) ret fu N7 eQ) (fun st y h=>ih N7 st y h) he
   |skip=>simp only[aE]at he ⊢;exact ih _ _ _ he
   |label l=>simp only[aE]at he ⊢;exact ih _ _ _ he
   |seq x y=>simp only[aE]at he ⊢;exact ih _ _ _ he
   |block id c=>simp only[aE]at he ⊢;exact ih _ _ _ he
   |scope c=>simp only[aE]at he ⊢;exact ih _ _ _ he
   |loop c=>simp only[aE]at he ⊢;exact ih _ _ _ he
   |_=>simp only[aE]at he;cases he
  |_=>simp only[aE]at he;cases he
section
variable {An:FuncId→Nat→Option Shape} {G:(f:FuncId)→(g:aS)→Option (g.A→Option g.B)}
def Yq(F F':FT):Prop:=∀f g x y,F f g x=some y→F' f g x=some y
theorem Yq.to{F F':FT}(h:Yq F F'):To (fun _=>F') F:=fun f g x y hy=>.now fun _=>h f g x y hy
theorem uL.get{p:Prop}(h:uL fun _=>p):p:=by obtain⟨m,hm⟩:=h;exact hm m (ada _)
theorem oC{F F':FT}(h:Yq F F'){f:FuncId}{g:aS}{fn:Func}:∀(n n':Nat) (sh:Shape) (k:List Item) (x:sh.T) (y:g.B),n≤n'→mM P Eqs Sg An F f g fn n sh k x=some y→mM P Eqs Sg An F' f g fn n' sh k x=some y
 |0,_,_,_,_,_,_,hx=>by simp only[mM]at hx;cases hx
 |n+1,0,_,_,_,_,hn,_=>by omega
 |n+1,n'+1,sh,k,x,y,hn,hx=>by
  cases k with
  |nil=>simp only[mM]at hx;cases hx
  |cons it k =>
   cases it with
   |inLoop c =>simp only[mM]at hx ⊢;exact(gM h.to (J:=fun _=>mM P Eqs Sg An F' f g fn n') (JL:=mM P Eqs Sg An F f g fn n) (fun sh k x y hy=>.now fun _=>oC h n n' sh k x y (by omega) hy) _ _ _ _ hx).get
   |_=>simp only[mM]at hx;cases hx
theorem N8{F F':FT}(h:Yq F F'){f:FuncId}{g:aS}{n n':Nat}{x:g.A}{y:g.B}(hn:n≤n')(hx:Kf P Eqs Sg An F f g n x=some y):Kf P Eqs Sg An F' f g n' x=some y:=by
 unfold Kf at hx ⊢
 split at hx
 ·cases hx
 ·rename_i fn c hb
  try simp only[hb]
  split at hx
  ·rename_i hc;simp only[if_pos hc];exact(gM h.to (J:=fun _=>mM P Eqs Sg An F' f g fn n') (JL:=mM P Eqs Sg An F f g fn n) (fun sh k x y hy=>.now fun _=>oC h n n' sh k x y hn hy) _ _ _ _ hx).get
  ·cases hx
theorem Ah:∀m,Yq (Fn P Eqs Sg An G m) (Fn P Eqs Sg An G (m+1))
 |0,f,g,x,y,hx=>by
  simp only[Fn]at hx ⊢
  split at hx
  ·rename_i u hu;(try simp only[hu]);exact hx
  ·cases hx
 |m+1,f,g,x,y,hx=>by
  rw[Fn]at hx ⊢
  split at hx
  ·rename_i u hu;(try simp only[hu]);exact hx
  ·rename_i hu
   try simp only[hu]
   exact N8 (Ah m) (Nat.le_succ m) hx
theorem Ai{m m':Nat}(h:m≤m'):Yq (Fn P Eqs Sg An G m) (Fn P Eqs Sg An G m'):=by
 induction h with
 |refl=>exact fun _ _ _ _ h=>h
 |step _ ih=>exact fun f g x y hx=>Ah _ f g x y (ih f g x y hx)
variable (P Eqs Sg An G) in
open Classical in
noncomputable def Fix:FT:=fun f g x=>if h:∃m y,Fn P Eqs Sg An G m f g x=some y then some (Classical.choose (Classical.choose_spec h)) else none
theorem FR:To (Fn P Eqs Sg An G) (Fix P Eqs Sg An G):=fun f g x y hy=>by
 unfold Fix at hy
 split at hy
 ·rename_i h
  cases hy
  exact⟨Classical.choose h,fun m' hm=>Ai hm _ _ _ _ (Classical.choose_spec (Classical.choose_spec h))⟩
 ·cases hy
theorem QW{m:Nat}{f:FuncId}{g:aS}{x:g.A}{y:g.B}(h:Fn P Eqs Sg An G m f g x=some y):Fix P Eqs Sg An G f g x=some y:=by
 have he:∃m y,Fn P Eqs Sg An G m f g x=some y:=⟨m,y,h⟩
 cases hy:Fix P Eqs Sg An G f g x with
 |none=>unfold Fix at hy;rw[dif_pos he]at hy;cases hy
 |some y' =>obtain⟨m1,h1⟩:=FR f g x y' hy;have h2:=h1 (max m m1) (by omega);have h3:=Ai (show m≤max m m1 by omega) f g x y h;rw[h2]at h3;exact h3
variable (P Eqs Sg An G) in
open Classical in
noncomputable def Lp(f:FuncId)(g:aS)(fn:Func)(sh:Shape)(k:List Item)(x:sh.T):Option g.B :=if h:∃m y,mM P Eqs Sg An (Fn P Eqs Sg An G m) f g fn m sh k x=some y then some (Classical.choose (Classical.choose_spec h)) else none
theorem QX{f:FuncId}{g:aS}{fn:Func}:ToJ (fun m=>mM P Eqs Sg An (Fn P Eqs Sg An G m) f g fn m) (Lp P Eqs Sg An G f g fn):=fun sh k x y hy=>by
 unfold Lp at hy
 split at hy
 ·rename_i h
  cases hy
  exact⟨Classical.choose h,fun m' hm=>oC (Ai hm) _ _ _ _ _ _ hm (Classical.choose_spec (Classical.choose_spec h))⟩
 ·cases hy
theorem aa0{m:Nat}{f:FuncId}{g:aS}{fn:Func}{sh:Shape}{k:List Item}{x:sh.T}{y:g.B}(h:mM P Eqs Sg An (Fn P Eqs Sg An G m) f g fn m sh k x=some y):Lp P Eqs Sg An G f g fn sh k x=some y:=by
 have he:∃m y,mM P Eqs Sg An (Fn P Eqs Sg An G m) f g fn m sh k x=some y:=⟨m,y,h⟩
 cases hy:Lp P Eqs Sg An G f g fn sh k x with
 |none=>unfold Lp at hy;rw[dif_pos he]at hy;cases hy
 |some y' =>obtain⟨m1,h1⟩:=QX sh k x y' hy;have h2:=h1 (max m m1) (by omega);have h3:=oC (Ai (show m≤max m m1 by omega)) m (max m m1) sh k x y (by omega) h;exact h2.symm.trans h3
theorem Mg{f:FuncId}{g:aS}{x:g.A}{y:g.B}{fn:Func}{c:Code}(hG:G f g=none)(hb:body P (f%1000)=some (fn,c))(hc:(decide (g.ps.length≤fn.ntmps)&&decide (g.bs.length≤8))=true) (h:aE P Eqs Sg (Fix P Eqs Sg An G) fn.ntmps (An f) (Lp P Eqs Sg An G f g fn) (qT P g fn) fuel [.code c] (entry g x)=some y):Fix P Eqs Sg An G f g x=some y:=by obtain⟨m,hm⟩:=gM (FR (P:=P) (Eqs:=Eqs) (Sg:=Sg) (An:=An) (G:=G)) (QX (f:=f) (g:=g) (fn:=fn)) _ _ _ _ h;refine QW (m:=m+1) ?_;simp only[Fn,hG];unfold Kf;simp only[hb,if_pos hc];exact hm m (ada _)
theorem Ev{f:FuncId}{g:aS}{x:g.A}{y:g.B}{u:g.A→Option g.B}(hG:G f g=some u)(h:u x=some y):Fix P Eqs Sg An G f g x=some y:=by refine QW (m:=0) ?_;simp only[Fn,hG];exact h
theorem QY{f:FuncId}{g:aS}{fn:Func}{sh:Shape}{c:Code}{k:List Item}{x:sh.T}{y:g.B} (h:aE P Eqs Sg (Fix P Eqs Sg An G) fn.ntmps (An f) (Lp P Eqs Sg An G f g fn) (qT P g fn) fuel (.code c::.inLoop c::k) (ar sh x)=some y):Lp P Eqs Sg An G f g fn sh (.inLoop c::k) x=some y:=by obtain⟨m,hm⟩:=gM (FR (P:=P) (Eqs:=Eqs) (Sg:=Sg) (An:=An) (G:=G)) (QX (f:=f) (g:=g) (fn:=fn)) _ _ _ _ h;refine aa0 (m:=m+1) ?_;simp only[mM];refine(gM (L:=Fn P Eqs Sg An G m) (Yq.to (Ah m)) (J:=fun _=>mM P Eqs Sg An (Fn P Eqs Sg An G (m+1)) f g fn m) (JL:=mM P Eqs Sg An (Fn P Eqs Sg An G m) f g fn m) (fun sh k x y hy=>.now fun _=>oC (Ah m) m m sh k x y (ada _) hy) _ _ _ _ (hm m (ada _))).get
theorem Aj(hX:∀f g u,Sg f=some g→g.x=some u→iF P (f%1000) u)(Du:∀t k,Eqs t=some k→lS P t k)(NT:∀f g,Sg f=some g→jr P (f%1000))(hm:P.follows .mixedOrders=true) (hG:∀f g u x y,Sg f=some g→G f g=some u→u x=some y→Ej P f g x y) {f:FuncId} {g:aS} {x:g.A} {y:g.B} (hs:Sg f=some g) (h:Fix P Eqs Sg An G f g x=some y):Ej P f g x y:=by obtain⟨m,US⟩:=FR f g x y h;exact H4 hX Du NT hm hG m f g x y hs (US m (ada _))
end
end Go.Vs
namespace Go.Vs
open Go.Proofs
abbrev ae:=((Int×Int)×Int)
abbrev ID:=(Int×Int)
abbrev ah:=(ID×((List ae)×(ByteArray×Int)))
abbrev ai:=(ID×(ByteArray×Int))
abbrev aj:=((List ah)×(List ai))
abbrev aB:=(ae×ae)
abbrev StateT:=(aj×(List aB))
abbrev ni:=(ID×ae)
abbrev aR:=(Int×(ID×(ID×(ID×(ni×(ni×(Bool×(ByteArray×Int))))))))
abbrev ba:=((List ah)×((List ai)×((List aB)×Unit)))
abbrev lI{α:Type}(l:List α):Int:=((l.length:Nat):Int)
abbrev wI(n:Int):Int:=IntKind.wrap .i64 n
abbrev OI:ID:=(0,0)
abbrev OD:ae:=(OI,0)
abbrev OC:ni:=(OI,OD)
abbrev OB:ByteArray:=⟨#[]⟩
abbrev OS:StateT:=(([],[]),[])
abbrev OW:ba:=([],([],([],())))
abbrev k13:K:=(.pair .str (.int .u64))
abbrev gT:K:=(.pair (.int .i64) (.int .i64))
abbrev k68:K:=(.pair .str (.pair (.int .i64) .bool))
abbrev br:K:=(.pair gT (.int .i64))
abbrev k7:K:=(.pair (.int .i64) (.pair (.int .i64) (.pair .bool (.int .u8))))
abbrev dM:K:=(.pair gT (.pair .str (.int .i64)))
abbrev N9:K:=(.pair gT br)
abbrev cM:K:=(.pair br br)
abbrev dq:K:=(.pair gT (.pair (.sl br) (.pair .str (.int .i64))))
abbrev db:K:=(.pair (.sl dq) (.sl dM))
abbrev ju:K:=(.pair db (.sl cM))
abbrev fE:K:=(.pair (.int .i64) (.pair gT (.pair gT (.pair gT (.pair N9 (.pair N9 (.pair .bool (.pair .str (.int .i64)))))))))
abbrev Dv:K:=(.one (.sl fE))
def pR(xs:List ah)(ys:List ai):Bool:=decide (xs.length≤50000000)&&(decide (ys.length≤50000000)&&xs.all fun v=>decide (v.2.1.length≤50000000))
def FU(h:Heap)(id:Nat):List AV→Option (Bool×bL)
 |[.agg [.bK a,.bK b]]=>match dY h (.row 52 dq) (.bK a),dY h (.row 118 dM) (.bK b) with
  |some xs,some ys=>if a=b then none else some (pR xs ys,.new (.agg [.bK (id+128),.bK (id+129)]) [(id+128,.own (.row 52 dq) xs),(id+129,.own (.row 118 dM) ys)])
  |_,_=>none
 |_=>none
abbrev ae6(a:List PK)(b:List RK):aS:={ ps:=a,bs:=[],rs:=b }
abbrev ae7:K:=.int .i64
def H6:=ae6 [.val ju,.val fE] [.val ju,.val ae7]
def H7:=ae6 [.val ju,.val fE] [.val ju,.val ae7]
def QZ:=ae6 [.val ju,.val ju] [.val .bool]
def kU:=ae6 [.val db,.val gT] [.val dq,.val .bool]
def zz:=ae6 [.val gT] [.val .bool]
def pS:=ae6 [.val db,.val br] [.val gT,.val .bool]
def rj:=ae6 [.val db,.val gT] [.val dM,.val .bool]
def H8:=ae6 [.val db,.val br] [.val (.sl br)]
def DO:=ae6 [.val br] [.val br]
def rk:=ae6 [.val (.sl br),.val br] [.val ae7]
def KQ:=ae6 [.val (.sl br),.val br] [.val br,.val .bool]
def BH:=ae6 [.val db,.val db] [.val .bool]
def xh:=ae6 [.val .str] [.val .bool]
def zB:=ae6 [.val ae7] [.val .bool]
def Ra:=ae6 [.val ju,.val Dv] [.val ju,.val ae7]
def H9:=ae6 [.val db] [.own (.row 50 (.sl br))]
def Ia:=ae6 [.val db] [.val ae7]
def Ib:=ae6 [.val ju,.val Dv] [.val ju,.val ae7]
def DP:=ae6 [.val db] [.agg [.own (.row 52 dq),.own (.row 118 dM)]]
def FV:=ae6 [.val db] [.val ae7]
def Ic:=ae6 [.val Dv] [.val ae7]
def KR:=ae6 [.val fE] [.val ae7]
def DQ:=ae6 [.val ju,.val (.sl fE)] [.val ju,.val ae7]
def Oa:=ae6 [.val fE] [.val ae7]
def FY:=ae6 [.val db,.val dq] [.val db]
def pT:=ae6 [.val db,.val gT,.val gT] [.val db]
def Rb:=ae6 [.val ju,.val fE] [.val ju,.val ae7]
def Rc:=ae6 [.val ju,.val fE] [.val ju,.val ae7]
def Rd:=ae6 [.val ju,.val fE] [.val ju,.val ae7]
def zF:=ae6 [.val ju,.val fE] [.val ju,.val ae7]
def BI:=ae6 [.val ju,.val fE] [.val ju,.val ae7]
def FZ:=ae6 [.val (.sl cM),.val (.sl cM)] [.val .bool]
def Oc:=ae6 [.val db,.val br] [.val br,.val .bool]
def DR:=ae6 [.val db,.val gT] [.val ae7]
def sY:=ae6 [.val db] [.own (.row 3 ae7)]
def F2:=ae6 [.val (.sl br),.val (.sl br)] [.val .bool]
def Ie:=ae6 [.val Dv] [.val ae7]
def F3:=ae6 [.val db] [.own (.row 33 br)]
def F4:=ae6 [.val db] [.agg [.own (.row 52 dq),.own (.row 118 dM)]]
def Ig:=ae6 [.val (.sl cM)] [.own (.row 54 cM)]
def KS:=ae6 [.val br,.val br] [.val ae7]
def qC:=ae6 [.val db] [.val ae7]
def F5:=ae6 [.val db] [.val ae7]
def Re:=ae6 [.val fE] [.val fE,.val ae7]
def BJ:aS:={ ps:=[.ref,.val fE],bs:=[.box 155 [.own (.row 52 dq),.own (.row 118 dM),.val (.sl cM)]],rs:=[.val ae7] }
def Od:=ae6 [.val fE] [.val fE]
def Oe:=ae6 [.val N9] [.val .bool]
def F6:=ae6 [.val gT,.val gT] [.val ae7]
def Og:=ae6 [.val ju,.val N9] [.val N9,.val ae7]
def zG:=ae6 [.val db,.val dM] [.val db]
def zH:=ae6 [.val db,.val N9,.val br] [.val db]
def zJ:=ae6 [.val (.sl cM),.val cM] [.val (.sl cM)]
def Oh:=ae6 [.val db,.val br] [.val br]
def Oi:=ae6 [.val db,.val br] [.val db]
def Ih:=ae6 [.val db,.val br,.val br] [.val db]
def pU:=ae6 [.val (.sl br)] [.own (.row 33 br)]
def Rf:=ae6 [.val db,.val br] [.val br,.val .bool]
def Oj:=ae6 [.val (.sl dq)] [.own (.row 52 dq)]
def Ol:=ae6 [.val (.sl dM)] [.own (.row 118 dM)]
def zK:=ae6 [.val (.sl br)] [.own (.row 33 br)]
def zL:=ae6 [.val db] [.val (.sl gT)]
def vv:=ae6 [.val (.sl gT)] [.val .bool]
def lk:=ae6 [.val db] [.val .bool]
def F7:=ae6 [.val db] [.val ae7,.val ae7,.val ae7,.val ae7]
def rl:=ae6 [.val gT] [.val .bool]
def DS:=ae6 [.val N9] [.val .bool]
def xi:=ae6 [.val .str] [.val .bool]
def Ii:=ae6 [.val ae7] [.val .bool]
def Ij:aS:={ ps:=[.ref,.val dq],bs:=[.box 155 [.own (.row 52 dq),.own (.row 118 dM),.val (.sl cM)]],rs:=[.val ae7] }
def Rg:aS:={ ps:=[.ref,.val fE],bs:=[.box 155 [.own (.row 52 dq),.own (.row 118 dM),.val (.sl cM)]],rs:=[.val ae7] }
def oD:aS:={ ps:=[.ref,.val fE],bs:=[.box 155 [.own (.row 52 dq),.own (.row 118 dM),.val (.sl cM)]],rs:=[.val ae7] }
def BL:aS:={ ps:=[.ref,.val fE],bs:=[.box 155 [.own (.row 52 dq),.own (.row 118 dM),.val (.sl cM)]],rs:=[.val ae7] }
def zM:aS:={ ps:=[.ref,.val fE],bs:=[.box 155 [.own (.row 52 dq),.own (.row 118 dM),.val (.sl cM)]],rs:=[.val ae7] }
def rm:aS:={ ps:=[.ref,.val fE],bs:=[.box 155 [.own (.row 52 dq),.own (.row 118 dM),.val (.sl cM)]],rs:=[.val ae7] }
def Rh:aS:={ ps:=[.ref,.val fE],bs:=[.box 155 [.own (.row 52 dq),.own (.row 118 dM),.val (.sl cM)]],rs:=[.val ae7] }
def Ri:=ae6 [.val br] [.val .bool]
def Ik:=ae6 [.val ju,.val br] [.val br]
def DT:=ae6 [.val db,.val gT,.val (.sl br)] [.val db]
def yV:=ae6 [.val (.sl br),.val br,.val br] [.own (.row 33 br)]
def tw:=ae6 [.val (.sl cM),.val br] [.val br,.val .bool]
def vw:=ae6 [.val (.sl br),.val br] [.own (.row 33 br)]
def Il:=ae6 [.val (.sl br),.val br,.val br] [.own (.row 33 br)]
def Im:=ae6 [.val (.sl br),.val br] [.val br,.val .bool]
def oE:=ae6 [.val db,.val br] [.val ae7]
def Io:=ae6 [.val br] [.val .bool]
def qv:aS:={ ps:=[.ref,.val gT],bs:=[.box 155 [.own (.row 52 dq),.own (.row 118 dM),.val (.sl cM)]],rs:=[.val ae7,.val .bool] }
def WV:aS:={ ps:=[],bs:=[],rs:=[],x:=some (P0 52 dq) }
def WW:aS:={ ps:=[],bs:=[],rs:=[],x:=some (UB 52 dq) }
def yW:aS:={ ps:=[.ref,.val gT],bs:=[.box 155 [.own (.row 52 dq),.own (.row 118 dM),.val (.sl cM)]],rs:=[.val ae7] }
def BM:=ae6 [.val gT] [.val br,.val br]
def Ip:=ae6 [.val ju,.val N9] [.val N9,.val ae7]
def BN:=ae6 [.val (.sl br),.val br,.val br] [.own (.row 33 br)]
def BO:=ae6 [.val db] [.val .bool]
def nj:aS:={ ps:=[.ref,.val gT],bs:=[.box 155 [.own (.row 52 dq),.own (.row 118 dM),.val (.sl cM)]],rs:=[.val ae7,.val .bool] }
def BP:aS:={ ps:=[.ref,.val br,.val br],bs:=[.box 155 [.own (.row 52 dq),.own (.row 118 dM),.val (.sl cM)]],rs:=[] }
def BQ:aS:={ ps:=[.ref,.val br],bs:=[.box 155 [.own (.row 52 dq),.own (.row 118 dM),.val (.sl cM)]],rs:=[.val br] }
def mh:aS:={ ps:=[.ref,.val br],bs:=[.box 155 [.own (.row 52 dq),.own (.row 118 dM),.val (.sl cM)]],rs:=[.eY 0 [(0,5,0)]] }
def BR:=ae6 [.val (.sl br),.val br] [.own (.row 33 br)]
def WX:aS:={ ps:=[],bs:=[],rs:=[],x:=some (UB 118 dM) }
def tx:=ae6 [.val (.sl br),.val br,.val br] [.own (.row 33 br)]
def oF:=ae6 [.val br] [.val br]
def rp:=ae6 [.val (.sl br)] [.own (.row 33 br)]
def Iq:aS:={ ps:=[.ref,.val fE],bs:=[.box 155 [.own (.row 52 dq),.own (.row 118 dM),.val (.sl cM)]],rs:=[.eY 0 [(0,5,3),(1,4,2)],.eY 0 [(0,5,4),(1,4,3)]] }
def Ew:=ae6 [.val dq,.val gT] [.val ae7]
def BS:=ae6 [.val gT,.val gT] [.val ae7]
def WY:aS:={ ps:=[],bs:=[],rs:=[],x:=some (P0 118 dM) }
def tz:=ae6 [.val db,.val gT] [.val dq,.val .bool]
def yX:=ae6 [.val ju,.val br] [.val br]
def vx:=ae6 [.val (.sl br),.val br] [.val .bool]
def mi:=ae6 [.val (.sl br),.val br] [.val ae7]
def oG:=ae6 [.val (.sl (.sl br))] [.own (.row 33 br)]
def Ir:=ae6 [.val db] [.val ae7]
def Ex:=ae6 [.val dM,.val gT] [.val ae7]
def Is:=ae6 [.val (.sl cM),.val cM] [.own (.row 54 cM)]
def BT:=ae6 [.val (.sl br),.val br] [.val br,.val .bool]
def Ey:=ae6 [.val br,.val br] [.val ae7]
def oH:=ae6 [.val (.sl (.sl br))] [.own (.row 33 br)]
def vz:=ae6 [.val (.sl ae7)] [.val ae7]
def BU:=ae6 [.val ae7,.val ae7] [.val ae7]
def It:=ae6 [.val dq] [.val gT]
def tB:=ae6 [.val db,.val br] [.val gT,.val .bool]
def Iu:=ae6 [.val (.sl cM),.val br] [.val br,.val .bool]
def Ix:=ae6 [.val db] [.val ae7,.val ae7,.val ae7,.val ae7]
def Ez:=ae6 [.val cM,.val br] [.val ae7]
def WZ:aS:={ ps:=[],bs:=[],rs:=[],x:=some (P0 54 cM) }
def BV:=ae6 [.val (.sl br),.val br,.val ae7] [.val br,.val .bool]
def W0:aS:={ ps:=[],bs:=[],rs:=[],x:=some (L6 33 br) }
def BW:=ae6 [.val ae7] [.val .bool]
def Iy:aS:={ ps:=[.val cM,.ref],bs:=[.box 33 [.val ae7,.val ae7,.val ae7]],rs:=[.val .bool] }
def Iz:=ae6 [.val dq] [.val .bool]
def yY:=ae6 [.val db] [.own (.row 50 (.sl br))]
def yZ:=ae6 [.val db] [.val ae7]
def vA:=ae6 [.val db] [.own (.row 33 br)]
def W9:=ae6 [.val db] [.own (.row 28 (.sl gT))]
def EA:=ae6 [.val db,.val br] [.val br,.val .bool]
def ig:=ae6 [.val db] [.own (.row 3 ae7)]
def y0:=ae6 [.val db,.val br] [.val br,.val .bool]
def IA:aS:={ ps:=[.own,.val ae7,.val ae7],bs:=[.own (.row 3 ae7)],rs:=[] }
def rq:aS:={ ps:=[.own,.val ae7],bs:=[.own (.row 3 ae7)],rs:=[.val ae7] }
def IB:=ae6 [.val (.sl br),.val br] [.val br,.val .bool]
def jv:=ae6 [.val (.sl dq),.val gT,.G5 207 0] [.val ae7,.val .bool]
def jw:=ae6 [.val (.sl dM),.val gT,.G5 214 0] [.val ae7,.val .bool]
def kB:=ae6 [.val (.sl br),.G5 195 0] [.val br]
def kC:=ae6 [.val (.sl dq),.G5 109 0,.val gT] [.val dq,.val .bool]
def jx:=ae6 [.val (.sl cM),.val br,.G5 232 0] [.val ae7,.val .bool]
def jy:aS:={ ps:=[.val (.sl cM),.G5 245 1],bs:=[.box 33 [.val br]],rs:=[.val ae7] }
def kD:=ae6 [.val (.sl dq),.G5 239 0] [.val ae7]
def IC:aS:={ ps:=[],bs:=[],rs:=[],x:=some FU }
def Rj:=ae6 [] []
abbrev k98:K:=(.pair Dv gT)
abbrev k99:K:=(.pair ju (.pair ae7 (.sl Dv)))
abbrev ij:=(StateT×(Int×((List (List aR))×Unit)))
abbrev Q40:=((List aR)×ID)
abbrev Q41:=(((List (List aR))×(Int×Unit))×(ij×Unit))
abbrev Q42:=((StateT×Unit)×(ij×Unit))
abbrev Q0:=((Bool×Unit)×Unit)
abbrev Q1:=((StateT×(Int×Unit))×Unit)
abbrev Q2:=((Int×Unit)×Unit)
abbrev Q3:=(((List aR)×Unit)×Unit)
abbrev Q4:=((StateT×Unit)×Unit)
abbrev Q5:=((aj×Unit)×Unit)
abbrev Q6:=(((List ae)×Unit)×Unit)
abbrev Q7:=((ah×(Bool×Unit))×Unit)
abbrev Q8:=(List aR)
abbrev Q9:=((Int×Unit)×(ij×Unit))
abbrev Om:=((ai×(Bool×Unit))×Unit)
abbrev F8:=((ae×Unit)×Unit)
abbrev J6:=((ae×(Bool×Unit))×Unit)
abbrev On:=((ID×(Bool×Unit))×Unit)
abbrev KT:=((Int×(Bool×Unit))×(ba×Unit))
abbrev Rk:=((StateT×(aR×Unit))×Unit)
abbrev Yr:=((StateT×((List aR)×Unit))×Unit)
abbrev Q17:=(((List (List aR))×Unit)×Unit)
abbrev Ve:=(((List aB)×Unit)×Unit)
abbrev Rl:=((Int×Unit)×(ba×Unit))
abbrev Uq:=((aj×(ae×Unit))×Unit)
abbrev Vf:=(((List ae)×(ae×Unit))×Unit)
abbrev Xa:=((aR×Unit)×(ba×Unit))
abbrev Q23:=((StateT×Unit)×((List (List aR))×Unit))
abbrev Q24:=(((List aR)×(Int×Unit))×Unit)
abbrev Q25:=(((List (List ae))×Unit)×Unit)
abbrev Q26:=((((List ah)×((List ai)×Unit))×Unit)×Unit)
abbrev ZS:=((ni×Unit)×Unit)
abbrev Q28:=((Int×(Int×Unit))×(ij×Unit))
abbrev Q29:=((StateT×((List (List aR))×Unit))×Unit)
abbrev Q30:=((aj×(ID×Unit))×Unit)
abbrev Q31:=(((Option ((Fin 1)×Nat))×Unit)×(ba×Unit))
abbrev Q32:=(Unit×(ij×Unit))
abbrev Q33:=((ae×(ae×Unit))×Unit)
abbrev Q34:=(((List ae)×(ae×(ae×Unit)))×Unit)
abbrev Q35:=((Int×Unit)×((List Int)×Unit))
abbrev Q36:=((StateT×(Int×Unit))×(ij×Unit))
abbrev Q37:=(((List Bool)×Unit)×((List (List aR))×Unit))
abbrev Q38:=((Bool×(Int×Unit))×(((StateT×Unit)×((aR×Unit)×(ba×(((List ah)×((List ai)×Unit))×Unit))))×Unit))
abbrev Q39:=((Int×Unit)×((ba×((ae×Unit)×((ae×Unit)×((ae×Unit)×Unit))))×Unit))
def alS(_:Heap)(id:Nat):List AV→Option (Bool×bL)
 |[]=>some (true,.new (.ref (id+128) 0 0 0) [(id+128,.box 100 (enc k99 (nY k99)))])
 |_=>none
def agb(h:Heap)(_:Nat):List AV→Option (Bool×bL)
 |[.ref i 0 0 0]=>match AI h i 100 with
  |some cs=>match dz k99 cs with
   |some x=>some (true,.val (.int .i64 x.2.1))
   |none=>none
  |none=>none
 |_=>none
def akk(h:Heap)(id:Nat):List AV→Option (Bool×bL)
 |[.ref i 0 0 0]=>match AI h i 100 with
  |some cs=>match dz k99 cs with
   |some x=>some (true,.new (.ref (id+128) 0 0 0) [(id+128,.box 100 (enc k99 x))])
   |none=>none
  |none=>none
 |_=>none
def EB:=ae6 [.val ju,.val fE,.val Dv] [.val .bool]
def IE:=ae6 [] [.val .bool]
def mj:=ae6 [.val ju] [.val .bool]
def BX:=ae6 [.val ju,.val fE] [.own (.row 37 fE)]
def IF:=ae6 [.val Dv] [.val Dv]
def zc:=ae6 [.val ju,.val Dv] [.own (.row 37 fE),.val ae7]
def vB:=ae6 [.val (.sl fE),.val (.sl fE)] [.val .bool]
def EC:=ae6 [.val ju,.val fE] [.own (.row 37 fE)]
def zd:=ae6 [.val ju,.val Dv] [.own (.row 37 fE),.val ae7]
def ze:=ae6 [.val ju,.val (.sl fE)] [.val ju,.val ae7]
def zg:=ae6 [.val ju,.val (.sl fE)] [.val ju,.val ae7]
def tC:=ae6 [.val gT,.val .bool,.val .str,.val ae7] [.own (.row 37 fE)]
def IG:=ae6 [.val db,.val fE] [.own (.row 37 fE)]
def oI:=ae6 [.val db,.val fE] [.own (.row 37 fE)]
def IH:=ae6 [.val db,.val fE] [.own (.row 37 fE)]
def k0:=ae6 [.val gT,.val .bool,.val .str,.val ae7] [.own (.row 37 fE)]
def ED:=ae6 [.val ju,.val fE] [.own (.row 37 fE)]
def BY:=ae6 [.val ju,.val fE] [.own (.row 37 fE)]
def BZ:=ae6 [.val db,.val gT] [.val dM,.val .bool]
def EE:=ae6 [.val db,.val br,.val br] [.val N9]
def nk:=ae6 [.val (.sl (.sl fE))] [.own (.row 37 fE)]
def EF:=ae6 [.val gT,.val (.sl br),.val br] [.val N9]
def II:=ae6 [.val dM] [.val gT]
def kE:=ae6 [.val (.sl dM),.G5 138 0,.val gT] [.val dM,.val .bool]
def Xb:aS:={ ps:=[],bs:=[],rs:=[],x:=some (L6 37 fE) }
def Oo:=ae6 [] []
def Oq:=ae6 [] []
def Rm:=ae6 [] []
def Ot:=ae6 [] []
def sgs:List (Nat×aS):=[(73,H6),(45,H7),(22,QZ),(79,kU),(87,zz),(124,pS),(92,rj),(192,H8),(121,DO),(144,rk),(148,KQ),(55,BH),(91,xh),(90,zB),(63,Ra),(164,H9),(165,Ia),(49,Ib),(21,DP),(72,FV),(69,Ic),(104,KR),(103,DQ),(46,Oa),(80,FY),(81,pT),(82,Rb),(83,Rc),(84,Rd),(85,zF),(86,BI),(65,FZ),(216,Oc),(217,DR),(193,sY),(98,F2),(66,Ie),(191,F3),(96,F4),(97,Ig),(71,KS),(106,qC),(107,F5),(132,Re),(131,BJ),(88,Od),(89,Oe),(105,F6),(114,Og),(115,zG),(116,zH),(117,zJ),(118,Oh),(119,Oi),(120,Ih),(122,pU),(234,Rf),(127,Oj),(128,Ol),(110,zK),(133,zL),(134,vv),(135,lk),(136,F7),(159,rl),(160,DS),(161,xi),(162,Ii),(152,Ij),(153,Rg),(154,oD),(155,BL),(156,zM),(157,rm),(158,Rh),(123,Ri),(143,Ik),(145,DT),(146,yV),(147,tw),(126,vw),(149,Il),(248,Im),(163,oE),(190,Io),(175,qv),(176,WV),(177,WW),(178,yW),(179,BM),(180,Ip),(181,BN),(172,BO),(182,nj),(183,BP),(184,BQ),(185,mh),(141,BR),(186,WX),(187,tx),(188,oF),(169,rp),(189,Iq),(207,Ew),(208,BS),(211,WY),(74,tz),(212,yX),(166,vx),(168,mi),(170,oG),(204,Ir),(214,Ex),(215,Is),(140,BT),(195,Ey),(196,oH),(218,vz),(219,BU),(109,It),(139,tB),(230,Iu),(226,Ix),(232,Ez),(233,WZ),(167,BV),(220,W0),(235,BW),(245,Iy),(239,Iz),(240,yY),(241,yZ),(249,vA),(251,W9),(255,EA),(256,ig),(258,y0),(259,IA),(260,rq),(261,IB),(208206,jv),(215213,jw),(196194,kB),(110108,kC),(233231,jx),(246244,jy),(240238,kD),(500096,IC),(900025,Rj),(10,EB),(42,IE),(43,mj),(44,BX),(47,IF),(48,zc),(50,vB),(51,EC),(52,zd),(53,ze),(54,zg),(75,tC),(76,IG),(77,oI),(78,IH),(93,k0),(94,ED),(95,BY),(111,BZ),(112,EE),(113,nk),(125,EF),(138,II),(139137,kE),(142,Xb),(2514003,Oo),(3537003,Oq),(900022,Rm),(2769003,Ot)]
def Sg(f:FuncId):Option aS:=(sgs.find? (fun p=>p.1==f)).map (fun p=>p.2)
def eqs:List (Nat×K):=[(31,gT),(33,br),(35,N9),(37,fE),(118,dM),(54,cM)]
def Eqs(t:TypeId):Option K:=(eqs.find? (fun p=>p.1==t)).map (fun p=>p.2)
def B2:Shape:=⟨[(6,.int .i64)],[(.slot 2,20000,.box 41 [.val db]),(.slot 3,20001,.box 31 [.val gT]),(.slot 4,20002,.box 52 [.val ae7,.val ae7,.own (.row 33 br),.val .str,.val ae7])],[],[]⟩
def B3:Shape:=⟨[(6,.int .i64)],[(.slot 2,20000,.box 41 [.val db]),(.slot 3,20001,.box 33 [.val br]),(.slot 4,20002,.box 31 [.val gT])],[],[]⟩
def B4:Shape:=⟨[(6,.int .i64)],[(.slot 2,20000,.box 41 [.val db]),(.slot 3,20001,.box 31 [.val gT]),(.slot 4,20002,.box 118 [.val dM])],[],[]⟩
def B5:Shape:=⟨[],[(.slot 2,20000,.box 41 [.val db]),(.slot 3,20001,.box 33 [.val br]),(.slot 6,20002,.box 33 [.val br])],[(5,31000,(.row 33 br))],[]⟩
def B6:Shape:=⟨[(0,.sl br),(5,.int .i64)],[(.slot 3,20000,.box 33 [.val br])],[],[]⟩
def B7:Shape:=⟨[(5,.int .i64)],[(.slot 2,20000,.box 41 [.val db]),(.slot 3,20001,.box 41 [.val db])],[],[]⟩
def B8:Shape:=⟨[(9,.int .i64)],[(.slot 2,20000,.box 41 [.val db]),(.slot 3,20001,.box 41 [.val db])],[],[]⟩
def B9:Shape:=⟨[(0,.str),(3,.int .i64)],[],[],[]⟩
def xj:Shape:=⟨[(6,.int .i64)],[(.slot 1,20000,.box 41 [.val db])],[(3,31000,(.row 50 (.sl br))),(4,31001,(.row 33 br)),(5,31002,(.row 33 br))],[]⟩
def xk:Shape:=⟨[(4,.int .i64),(5,.int .i64)],[],[(3,31000,(.row 3 ae7))],[]⟩
def Ca:Shape:=⟨[(7,.int .i64)],[(.slot 2,20000,.box 44 [.val ju]),(.slot 3,20001,.box 27 [.val Dv]),(.slot 4,20002,.box 44 [.own (.row 52 dq),.own (.row 118 dM),.own (.row 54 cM)])],[],[]⟩
def Cb:Shape:=⟨[(4,.int .i64)],[(.slot 1,20000,.box 41 [.val db]),(.slot 2,20001,.box 41 [.own (.row 52 dq),.own (.row 118 dM)]),(.slot 3,20002,.box 41 [.own (.row 52 dq),.own (.row 118 dM)])],[],[]⟩
def Cc:Shape:=⟨[(3,.int .i64)],[(.slot 1,20000,.box 27 [.val Dv])],[],[]⟩
def Cd:Shape:=⟨[(18,.sl fE),(19,.int .i64),(20,.int .i64)],[(.slot 4,20000,.box 44 [.own (.row 52 dq),.own (.row 118 dM),.own (.row 54 cM)]),(.slot 6,20001,.box 155 [.own (.row 52 dq),.own (.row 118 dM),.val (.sl cM)])],[],[]⟩
def uh:Shape:=⟨[(6,.bool),(7,.int .i64)],[(.slot 2,20000,.box 41 [.val db]),(.slot 3,20001,.box 52 [.val dq]),(.slot 4,20002,.box 41 [.own (.row 52 dq),.own (.row 118 dM)]),(.slot 5,20003,.box 41 [.own (.row 52 dq),.val (.sl dM)])],[],[]⟩
def xl:Shape:=⟨[(8,.int .i64)],[(.slot 3,20000,.box 41 [.val db]),(.slot 4,20001,.box 31 [.val gT]),(.slot 5,20002,.box 31 [.val gT]),(.slot 6,20003,.box 41 [.own (.row 52 dq),.own (.row 118 dM)]),(.slot 7,20004,.box 41 [.own (.row 52 dq),.own (.row 118 dM)])],[],[]⟩
def xm:Shape:=⟨[(9,.int .i64)],[(.slot 3,20000,.box 41 [.val db]),(.slot 5,20001,.box 31 [.val gT]),(.slot 6,20002,.box 41 [.own (.row 52 dq),.own (.row 118 dM)]),(.slot 7,20003,.box 41 [.own (.row 52 dq),.own (.row 118 dM)])],[],[]⟩
def ml:Shape:=⟨[(12,.sl cM),(13,.int .i64)],[(.slot 4,20000,.box 44 [.own (.row 52 dq),.own (.row 118 dM),.own (.row 54 cM)]),(.slot 8,20001,.box 33 [.val br]),(.slot 9,20002,.box 33 [.val br]),(.slot 10,20003,.box 33 [.val br]),(.slot 11,20004,.box 41 [.val db])],[],[]⟩
def rr:Shape:=⟨[(7,.bool),(8,.int .i64)],[(.slot 2,20000,.box 44 [.val ju]),(.slot 3,20001,.box 37 [.val fE]),(.slot 4,20002,.box 44 [.own (.row 52 dq),.own (.row 118 dM),.own (.row 54 cM)]),(.slot 6,20003,.box 41 [.own (.row 52 dq),.own (.row 118 dM)])],[],[]⟩
def ru:Shape:=⟨[(7,.bool),(9,.int .i64)],[(.slot 2,20000,.box 44 [.val ju]),(.slot 3,20001,.box 37 [.val fE]),(.slot 4,20002,.box 44 [.own (.row 52 dq),.own (.row 118 dM),.own (.row 54 cM)]),(.slot 6,20003,.box 41 [.own (.row 52 dq),.own (.row 118 dM)])],[],[]⟩
def Ce:Shape:=⟨[(0,.sl cM),(1,.sl cM),(5,.int .i64)],[],[],[]⟩
def Cf:Shape:=⟨[(5,.int .i64)],[(.slot 2,20000,.box 41 [.val db]),(.slot 3,20001,.box 31 [.val gT])],[],[]⟩
def Cg:Shape:=⟨[(4,.int .i64)],[(.slot 1,20000,.box 41 [.val db])],[(3,31000,(.row 3 ae7))],[]⟩
def xn:Shape:=⟨[(5,.int .i64)],[(.slot 1,20000,.box 41 [.val db])],[(3,31000,(.row 3 ae7))],[]⟩
def ry:Shape:=⟨[(5,.int .i64),(6,.int .i64)],[(.slot 1,20000,.box 41 [.val db])],[(3,31000,(.row 3 ae7))],[]⟩
def Ch:Shape:=⟨[(0,.sl br),(1,.sl br),(5,.int .i64)],[],[],[]⟩
def Ci:Shape:=⟨[(17,.sl fE),(18,.int .i64),(19,.int .i64)],[],[],[]⟩
def Cj:Shape:=⟨[(4,.int .i64)],[(.slot 1,20000,.box 41 [.val db])],[(3,31000,(.row 33 br))],[]⟩
def Ck:Shape:=⟨[(14,.int .i64),(15,.int .i64)],[(.slot 2,20000,.box 41 [.own (.row 52 dq),.own (.row 118 dM)]),(.slot 3,20001,.box 41 [.own (.row 52 dq),.own (.row 118 dM)])],[],[]⟩
def ui:Shape:=⟨[(6,.bool),(7,.int .i64)],[(.slot 2,20000,.box 41 [.val db]),(.slot 3,20001,.box 118 [.val dM]),(.slot 4,20002,.box 41 [.own (.row 52 dq),.own (.row 118 dM)]),(.slot 5,20003,.box 41 [.val (.sl dq),.own (.row 118 dM)])],[],[]⟩
def kV:Shape:=⟨[(0,.sl cM),(8,.bool),(9,.int .i64)],[(.slot 3,20000,.box 54 [.val cM])],[(7,31000,(.row 54 cM))],[]⟩
def xp:Shape:=⟨[(0,.sl br),(3,.int .i64),(4,.int .i64)],[],[],[]⟩
def Cl:Shape:=⟨[(0,.sl br),(3,.int .i64),(6,.int .i64)],[],[(5,31000,(.row 33 br))],[]⟩
def Cm:Shape:=⟨[(4,.int .i64)],[(.slot 1,20000,.box 41 [.val db])],[(3,31000,(.row 31 gT))],[]⟩
def xq:Shape:=⟨[(5,.int .i64)],[(.slot 1,20000,.box 41 [.val db])],[(3,31000,(.row 31 gT))],[]⟩
def xt:Shape:=⟨[(0,.sl gT),(3,.int .i64)],[],[],[]⟩
def uj:Shape:=⟨[(3,.int .i64)],[(.slot 1,20000,.box 41 [.val db])],[],[]⟩
def xu:Shape:=⟨[(3,.int .i64),(4,.sl br),(6,.int .i64)],[(.slot 1,20000,.box 41 [.val db])],[],[]⟩
def xw:Shape:=⟨[(9,.int .i64)],[(.slot 1,20000,.box 41 [.val db])],[],[]⟩
def uk:Shape:=⟨[(9,.int .i64),(10,.int .i64)],[(.slot 1,20000,.box 41 [.val db])],[],[]⟩
def um:Shape:=⟨[(6,.int .i64),(7,.int .i64)],[(.slot 1,20000,.box 41 [.val db])],[],[]⟩
def xx:Shape:=⟨[(0,.str)],[],[(6,31000,.nX)],[]⟩
def mn:Shape:=⟨[(48,.int .i64),(49,.int .i64)],[(.slot 0,1000,.box 155 [.own (.row 52 dq),.own (.row 118 dM),.val (.sl cM)]),(.slot 5,20001,.box 44 [.val ju]),(.slot 7,20002,.box 33 [.val br])],[(9,31000,(.row 33 br)),(47,31001,(.row 35 N9))],[]⟩
def F9:Shape:=⟨[(5,.int .i64),(32,.int .i64),(33,.int .i64)],[(.slot 0,1000,.box 155 [.own (.row 52 dq),.own (.row 118 dM),.val (.sl cM)]),(.slot 7,20001,.box 33 [.val br]),(.slot 8,20002,.box 33 [.val br])],[(31,31000,(.row 33 br))],[]⟩
def xy:Shape:=⟨[(5,.int .i64),(47,.int .i64),(48,.int .i64)],[(.slot 0,1000,.box 155 [.own (.row 52 dq),.own (.row 118 dM),.val (.sl cM)])],[(46,31000,(.row 33 br))],[]⟩
def nO:Shape:=⟨[(113,.int .i64)],[(.slot 0,1000,.box 155 [.own (.row 52 dq),.own (.row 118 dM),.val (.sl cM)]),(.slot 8,20001,.box 33 [.val br]),(.slot 9,20002,.box 33 [.val br]),(.slot 10,20003,.box 33 [.val br])],[],[]⟩
def Cn:Shape:=⟨[(5,.int .i64)],[(.slot 2,20000,.box 44 [.val ju]),(.slot 3,20001,.box 33 [.val br]),(.slot 4,20002,.box 33 [.val br])],[],[]⟩
def xz:Shape:=⟨[(2,.sl br),(8,.int .i64)],[(.slot 4,20000,.box 31 [.val gT]),(.slot 6,20001,.box 41 [.own (.row 52 dq),.own (.row 118 dM)]),(.slot 7,20002,.box 41 [.own (.row 52 dq),.own (.row 118 dM)])],[],[]⟩
def sw:Shape:=⟨[(0,.sl br),(7,.int .i64),(9,.int .i64)],[(.slot 5,20000,.box 33 [.val br])],[(8,31000,(.row 33 br))],[]⟩
def vC:Shape:=⟨[(0,.sl cM),(6,.int .i64)],[(.slot 3,20000,.box 33 [.val br]),(.slot 4,20001,.box 33 [.val br])],[],[]⟩
def sx:Shape:=⟨[(0,.sl br),(6,.int .i64)],[(.slot 3,20000,.box 33 [.val br])],[(5,31000,(.row 33 br))],[]⟩
def sy:Shape:=⟨[(5,.int .i64),(6,.int .i64)],[(.slot 2,20000,.box 41 [.val db]),(.slot 3,20001,.box 33 [.val br])],[],[]⟩
def pV:Shape:=⟨[(5,.int .i64),(6,.int .i64),(7,.int .i64)],[(.slot 2,20000,.box 41 [.val db]),(.slot 3,20001,.box 33 [.val br])],[],[]⟩
def Ak:Shape:=⟨[(7,.int .i64)],[(.slot 0,1000,.box 155 [.own (.row 52 dq),.own (.row 118 dM),.val (.sl cM)]),(.slot 3,20001,.box 33 [.val br]),(.slot 4,20002,.box 33 [.val br]),(.slot 5,20003,.box 33 [.val br])],[],[]⟩
def vD:Shape:=⟨[(12,.int .i64),(13,.int .i64)],[(.slot 0,1000,.box 155 [.own (.row 52 dq),.own (.row 118 dM),.val (.sl cM)]),(.slot 3,20001,.box 33 [.val br])],[],[]⟩
def vE:Shape:=⟨[(12,.int .i64),(13,.int .i64)],[(.slot 2,20000,.box 44 [.val ju]),(.slot 3,20001,.box 33 [.val br]),(.slot 4,20002,.box 33 [.val br])],[],[]⟩
def vF:Shape:=⟨[(0,.sl br),(7,.int .i64),(8,.int .i64)],[(.slot 3,20000,.box 33 [.val br])],[],[]⟩
def vG:Shape:=⟨[(0,.sl (.sl br)),(3,.int .i64),(9,.sl (.sl br)),(10,.int .i64),(11,.int .i64)],[],[],[]⟩
def vH:Shape:=⟨[(25,.sl (.sl br)),(26,.int .i64),(27,.int .i64)],[],[(6,31000,(.row 33 br))],[]⟩
def Al:Shape:=⟨[(3,.int .i64),(6,.sl ae7),(7,.int .i64),(8,.int .i64)],[],[],[]⟩
def vI:Shape:=⟨[(9,.sl dq),(10,.int .i64),(11,.int .i64)],[(.slot 3,20000,.box 33 [.val br]),(.slot 4,20001,.box 31 [.val gT])],[],[]⟩
def vJ:Shape:=⟨[(8,.sl dM),(9,.int .i64),(10,.int .i64)],[],[(3,31000,(.row 33 br))],[]⟩
def sB:Shape:=⟨[(18,.sl dq),(19,.int .i64),(20,.int .i64)],[],[(3,31000,(.row 3 ae7)),(4,31001,(.map br ae7))],[]⟩
def vK:Shape:=⟨[(5,.int .i64),(18,.sl dq),(19,.int .i64),(20,.int .i64),(30,.sl br),(31,.int .i64),(32,.int .i64)],[],[(3,31000,(.row 3 ae7)),(4,31001,(.map br ae7))],[]⟩
def pW:Shape:=⟨[(4,.mp br ae7)],[],[(3,31000,(.row 3 ae7)),(42,31001,(.iter br ae7))],[]⟩
def vL:Shape:=⟨[(61,.int .i64),(62,.int .i64)],[],[(3,31000,(.row 3 ae7)),(13,31001,(.row 3 ae7))],[]⟩
def vM:Shape:=⟨[(11,.sl dq),(12,.int .i64),(13,.int .i64)],[(.slot 3,20000,.box 33 [.val br]),(.slot 4,20001,.box 33 [.val br])],[],[]⟩
def sD:Shape:=⟨[(1,.int .i64)],[],[(0,1000,(.row 3 ae7))],[]⟩
def iI:Shape:=⟨[(0,.sl dq),(8,.int .i64),(9,.int .i64),(10,.int .i64)],[(.slot 4,20000,.box 31 [.val gT])],[],[(2,207,[])]⟩
def iJ:Shape:=⟨[(0,.sl dM),(8,.int .i64),(9,.int .i64),(10,.int .i64)],[(.slot 4,20000,.box 31 [.val gT])],[],[(2,214,[])]⟩
def jW:Shape:=⟨[(0,.sl br),(6,.int .i64)],[(.slot 4,20000,.box 33 [.val br]),(.slot 5,20001,.box 33 [.val br])],[],[(1,195,[])]⟩
def mo:Shape:=⟨[(11,.sl dq),(12,.int .i64),(13,.int .i64)],[(.slot 5,20000,.box 31 [.val gT]),(.slot 6,20001,.box 52 [.val ae7,.val ae7,.own (.row 33 br),.val .str,.val ae7])],[],[(1,109,[])]⟩
def iK:Shape:=⟨[(0,.sl cM),(8,.int .i64),(9,.int .i64),(10,.int .i64)],[(.slot 4,20000,.box 33 [.val br])],[],[(2,232,[])]⟩
def jX:Shape:=⟨[(0,.sl cM),(7,.int .i64),(8,.int .i64)],[(.cap 1 0,1000,.box 33 [.val br])],[],[(1,245,[1000])]⟩
def jY:Shape:=⟨[(5,.int .i64),(8,.sl dq),(9,.int .i64),(10,.int .i64)],[],[],[(1,239,[])]⟩
def pX:Shape:=⟨[(4,.int .i64),(7,.bool),(8,.bool),(9,.int .i64)],[(.slot 1,20000,.box 41 [.val db])],[],[]⟩
def pY:Shape:=⟨[(7,.bool),(8,.bool),(10,.int .i64)],[(.slot 1,20000,.box 41 [.val db])],[],[]⟩
def vN:Shape:=⟨[(3,.int .i64)],[(.slot 1,20000,.box 44 [.val ju])],[],[]⟩
def vO:Shape:=⟨[(23,.sl fE),(24,.int .i64),(25,.int .i64)],[(.slot 2,20000,.box 44 [.val ju])],[(8,31000,(.row 37 fE))],[]⟩
def vP:Shape:=⟨[(0,.sl fE),(1,.sl fE),(5,.int .i64)],[],[],[]⟩
def vQ:Shape:=⟨[(9,.int .i64)],[(.slot 2,20000,.box 44 [.val ju]),(.slot 3,20001,.box 27 [.val Dv])],[(8,31000,(.row 37 fE))],[]⟩
def vR:Shape:=⟨[(18,.sl fE),(19,.int .i64),(20,.int .i64)],[(.slot 4,20000,.box 44 [.val ju]),(.slot 6,20001,.box 44 [.val ju])],[],[]⟩
def vS:Shape:=⟨[(1,.sl fE),(6,.int .i64)],[(.slot 2,20000,.box 44 [.val ju]),(.slot 4,20001,.box 44 [.own (.row 52 dq),.own (.row 118 dM),.own (.row 54 cM)])],[],[]⟩
def jz:Shape:=⟨[(32,.sl br),(33,.int .i64),(34,.int .i64)],[(.slot 3,20000,.box 37 [.val fE]),(.slot 5,20001,.box 52 [.val dq]),(.slot 7,20002,.box 118 [.val dM]),(.slot 9,20003,.box 37 [.val fE])],[],[]⟩
def sE:Shape:=⟨[(0,.sl (.sl fE)),(3,.int .i64),(9,.sl (.sl fE)),(10,.int .i64),(11,.int .i64)],[],[],[]⟩
def pZ:Shape:=⟨[(25,.sl (.sl fE)),(26,.int .i64),(27,.int .i64)],[],[(6,31000,(.row 37 fE))],[]⟩
def mq:Shape:=⟨[(11,.sl dM),(12,.int .i64),(13,.int .i64)],[(.slot 5,20000,.box 31 [.val gT]),(.slot 6,20001,.box 118 [.val dM])],[],[(1,138,[])]⟩
def ans:List (Nat×List (Nat×Shape)):=[(106,[(12,pX),(17,pY)]),(79,[(2,B2)]),(124,[(2,B3)]),(92,[(2,B4)]),(192,[(6,B5)]),(144,[(2,B6)]),(55,[(4,B7),(12,B8)]),(91,[(2,B9)]),(164,[(5,xj)]),(165,[(4,xk)]),(49,[(5,Ca)]),(21,[(3,Cb)]),(69,[(4,Cc)]),(103,[(3,Cd)]),(80,[(4,uh)]),(81,[(3,xl),(8,xm)]),(85,[(18,ml)]),(86,[(4,rr),(12,ru)]),(65,[(4,Ce)]),(217,[(2,Cf)]),(193,[(3,Cg),(7,xn),(10,ry)]),(98,[(4,Ch)]),(66,[(4,Ci)]),(191,[(3,Cj)]),(96,[(3,Ck)]),(115,[(4,ui)]),(117,[(7,kV)]),(122,[(3,xp),(9,Cl)]),(133,[(3,Cm),(7,xq)]),(134,[(2,xt)]),(135,[(2,uj),(9,xu),(15,xw),(18,uk)]),(136,[(3,um)]),(161,[(2,xx)]),(154,[(8,mn)]),(155,[(6,F9),(11,xy)]),(157,[(19,nO)]),(143,[(2,Cn)]),(145,[(3,xz)]),(146,[(6,sw)]),(147,[(2,vC)]),(126,[(3,sx)]),(163,[(3,sy),(6,pV)]),(184,[(3,Ak)]),(185,[(2,vD)]),(212,[(2,vE)]),(168,[(2,vF)]),(196,[(3,vG),(11,vH)]),(218,[(3,Al)]),(139,[(2,vI)]),(249,[(3,vJ)]),(256,[(4,sB),(8,vK),(14,pW),(21,vL)]),(258,[(2,vM)]),(260,[(1,sD)]),(208206,[(3,iI)]),(215213,[(3,iJ)]),(196194,[(5,jW)]),(110108,[(2,mo)]),(233231,[(3,iK)]),(246244,[(2,jX)]),(240238,[(3,jY)]),(43,[(2,vN)]),(48,[(6,vO)]),(50,[(4,vP)]),(52,[(6,vQ)]),(53,[(3,vR)]),(54,[(2,vS)]),(77,[(5,jz)]),(113,[(3,sE),(11,pZ)]),(139137,[(2,mq)])]
def An(f:FuncId)(key:Nat):Option Shape:=(ans.find? (fun p=>p.1==f)).bind fun p=>(p.2.find? (fun q=>q.1==key)).map (fun q=>q.2)
abbrev JT(g:aS):=(sh:Shape)→List Item→sh.T→Option g.B
noncomputable def bS(f:FuncId)(g:aS)(fn:Func)(F:FT)(J:JT g)(x:g.A):Option g.B:=aE Tryz.prog Eqs Sg F fn.ntmps (An f) J (qT Tryz.prog g fn) fuel [.code (fn.body.getD .skip)] (entry g x)
noncomputable def eE(f j:Nat)(g:aS)(fn:Func)(sh:Shape)(F:FT)(J:JT g)(x:sh.T):Option g.B:=aE Tryz.prog Eqs Sg F fn.ntmps (An f) J (qT Tryz.prog g fn) fuel (round (aO Tryz.prog (f%1000) j)) (ar sh x)
end Go.Vs
namespace Go.Vs
open Go.Proofs
variable {G:(f:FuncId)→(g:aS)→Option (g.A→Option g.B)}
noncomputable abbrev FX(G:(f:FuncId)→(g:aS)→Option (g.A→Option g.B)):FT:=Fix Tryz.prog Eqs Sg An G
noncomputable abbrev LX(G:(f:FuncId)→(g:aS)→Option (g.A→Option g.B))(f:FuncId)(g:aS)(fn:Func):JT g:=Lp Tryz.prog Eqs Sg An G f g fn
abbrev HG(G:(f:FuncId)→(g:aS)→Option (g.A→Option g.B)):Prop:=∀f g,(f==240 || f==241)=false→G f g=none
theorem az{f:FuncId}{g:aS}{fn:Func}{x:g.A}{y:g.B}{z:Option g.B}(hG:G f g=none)(e:bS f g fn (FX G) (LX G f g fn) x=z)(h:z=some y) (hb:body Tryz.prog (f%1000)=some (fn,fn.body.getD .skip):=by kernel_rfl) (hc:(decide (g.ps.length≤fn.ntmps)&&decide (g.bs.length≤8))=true:=by kernel_rfl):FX G f g x=some y:=Mg hG hb hc (e.trans h)
theorem ao{f j:Nat}{g:aS}{fn:Func}{sh:Shape}{x:sh.T}{y:g.B}{z:Option g.B}(e:eE f j g fn sh (FX G) (LX G f g fn) x=z)(h:z=some y) (hs:(match aO Tryz.prog (f%1000) j with | .inLoop _::_=>true|_=>false)=true:=by kernel_rfl):LX G f g fn sh (aO Tryz.prog (f%1000) j) x=some y:=by
 have h:=e.trans h;unfold eE at h;generalize aO Tryz.prog (f%1000) j=s at hs h ⊢
 split at hs
 ·exact QY h
 ·cases hs
abbrev aaa:=(Int×Unit)
abbrev aab:=(((List ah)×((List ai)×Unit))×(((List ah)×((List ai)×Unit))×Unit))
abbrev aac:=(ae×Unit)
abbrev aad:=(Int×aaa)
abbrev aae:=((aj×Unit)×Unit)
abbrev aaf:=(ID×Unit)
abbrev aag:=((List ae)×Unit)
abbrev aah:=(aac×Unit)
abbrev aai:=(StateT×Unit)
abbrev aaj:=(aj×Unit)
abbrev aam:=((List Int)×Unit)
abbrev aan:=(Unit×Unit)
abbrev aap:=((List aR)×Unit)
abbrev aas:=(ba×Unit)
abbrev aat:=((List ae)×aaa)
abbrev aaG:=((List ae)×aad)
abbrev aaH:=(aR×Unit)
abbrev aaN:=(aaf×Unit)
abbrev aaR:=(ByteArray×aaa)
abbrev aaT:=((List ah)×aad)
abbrev aaU:=(aae×Unit)
end Go.Vs
