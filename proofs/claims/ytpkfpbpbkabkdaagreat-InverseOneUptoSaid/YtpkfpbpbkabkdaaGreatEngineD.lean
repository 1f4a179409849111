/- The value semantics is sound -/
import Derived.Test.YtpkfpbpbkabkdaaGreatEngineC
import Derived.Scope
import Derived.Test.YtpkfpbpbkabkdaaGreatProg
import Derived.KernelRfl
set_option linter.unusedSimpArgs false
set_option linter.unusedVariables false
namespace Go.Vs
variable {P:Program} {Eqs:TypeId→Option K} {Sg:FuncId→Option aS} {F:(f:FuncId)→(g:aS)→g.A→Option g.B} {R:Type}
variable {Z Z' Z0:Nat→Prop} {ψ ψ' ψ0:Nat→Value} {h h':Hp} {w w' w0:World} {B0:Nat} {O N:Nat→Prop}
def fC(st:St):(l:List (Nat×Nat×OK))→Ka (l.map (·.2.2))→List yC
 |[],_=>[]
 |(s,id,ok)::r,x=>(id,(o8 (look st.tmps s)).head?,.own ok x.1)::fC st r x.2
theorem vm(st:St):∀(l:List (Nat×Nat×OK)) (x:Ka (l.map (·.2.2))),dH (fC st l x)=qP l x
 |[],_=>rfl
 |(s,id,ok)::r,x=>by simp only[fC,qP];rw[←vm st r x.2];rfl
theorem ti(st:St):∀(l:List (Nat×Nat×OK)) (x:Ka (l.map (·.2.2))),(fC st l x).map (·.1)=l.map (·.2.1)
 |[],_=>rfl
 |(s,id,ok)::r,x=>by simp only[fC,List.map_cons];rw[ti st r x.2]
theorem yP(st:St):∀(l:List (Nat×Nat×OK)) (x:Ka (l.map (·.2.2))),(fC st l x).filterMap (·.2.1)=l.flatMap fun p=>o8 (look st.tmps p.1)
 |[],_=>rfl
 |(s,id,ok)::r,x=>by simp only[fC,List.flatMap_cons];rw[dV,yP st r x.2];simp only[];rw[wW]
theorem q7{st:St}{s id:Nat}{ok:OK}{r:List (Nat×Nat×OK)}{x:Ka (((s,id,ok)::r).map (·.2.2))}(hd:nD st ((s,id,ok)::r)=some x):dX st.heap ok (look st.tmps s)=some x.1∧nD st r=some x.2:=by
 have e:nD st ((s,id,ok)::r)=(match dX st.heap ok (look st.tmps s),nD st r with
  |some x,some y=>some ((x,y):ok.T×Ka (r.map (·.2.2)))
  |_,_=>none):=rfl
 rw[e]at hd;clear e;generalize dX st.heap ok (look st.tmps s)=o1 at hd ⊢;generalize nD st r=o2 at hd ⊢
 cases o1 with
 |none=>cases hd
 |some x1 =>
  cases o2 with
  |none=>cases hd
  |some y1=>have:=ac5 hd;subst this;exact⟨rfl,rfl⟩
theorem By{hd:Hp}{st:St}:∀(l:List (Nat×Nat×OK)) (x:Ka (l.map (·.2.2))),nD st l=some x→(∀s∈(l.flatMap fun p=>o8 (look st.tmps p.1)),hd s=st.heap.get s) → ∀e∈fC st l x,u7 Z ψ hd w h' ψ' e
 |[],_,_,_,e,he=>by simp[fC]at he
 |(s,id,ok)::r,x,hx,hk,e,he=>by
  obtain⟨h1,h2⟩:=q7 hx;simp only[List.flatMap_cons]at hk;simp only[fC]at he;rcases acp.1 he with rfl|he
  ·exact L9 h1 fun s hs=>hk s (acq _ hs)
  ·exact By r x.2 h2 (fun s hs=>hk s (ac2 _ hs)) e he
theorem HS{st:St}{s:Nat}{k:K}{r:List (Nat×K)}{x:G7 (((s,k)::r).map (·.2))}(hd:qN st ((s,k)::r)=some x):fX k st.heap (look st.tmps s)=some x.1∧qN st r=some x.2:=by
 have e:qN st ((s,k)::r)=(match fX k st.heap (look st.tmps s),qN st r with
  |some x,some y=>some ((x,y):k.T×G7 (r.map (·.2)))
  |_,_=>none):=rfl
 rw[e]at hd;clear e;generalize fX k st.heap (look st.tmps s)=o1 at hd ⊢;generalize qN st r=o2 at hd ⊢
 cases o1 with
 |none=>cases hd
 |some x1 =>
  cases o2 with
  |none=>cases hd
  |some y1=>have:=ac5 hd;subst this;exact⟨rfl,rfl⟩
theorem fa{T:List (Nat×AV)}{n:Nat}{a:Act}(eY:∀p∈T,aC Z ψ h w p.2 (a.tmps.getD p.1 undef))(hs:a.tmps.size=n)(hd:a.defers=[]):cT Z ψ h w n (look T) a:=by
 refine⟨fun d=>?_,hs,hd⟩
 induction T with
 |nil=>simp only[look,aC]
 |cons p r ih =>
  obtain⟨i,v⟩:=p;simp only[look]
  split
  ·rename_i e;subst e;exact eY _ ac4
  ·exact ih fun p hp=>eY p (acm _ hp)
section
variable {st:St} {n:Nat} {a:Act}
theorem vn(g:Good Z ψ st.heap.get w B0 O)(t:cT Z ψ st.heap.get w n (look st.tmps) a)(hz:∀b,Z b→Z' b):∀(l:List (Nat×K)) (x:G7 (l.map (·.2))),qN st l=some x →(∀id b,AV.bK id∈(l.flatMap fun p=>(look st.tmps p.1).cells)→st.heap.get id≠none→ob (ψ id)=some b→Z' b)→∀p∈qO l x,aC Z' ψ' h' w p.2 (a.tmps.getD p.1 undef)
 |[],_,_,_,p,hp=>by simp[qO]at hp
 |(s,k)::r,x,hx,hf,p,hp=>by
  obtain⟨h1,h2⟩:=HS hx;simp only[List.flatMap_cons]at hf;simp only[qO]at hp;rcases acp.1 hp with rfl|hp
  ·exact rU g hz (fun id b bS=>hf id b (acq _ bS)) h1 (t.rep s)
  ·exact vn g t hz r x.2 h2 (fun id b bS=>hf id b (ac2 _ bS)) p hp
theorem tj(t:cT Z ψ st.heap.get w n (look st.tmps) a):∀(l:List (Src×Nat×BK)) (ids:List Nat),Fk st l=some ids→(∀i∈ids,st.heap.get i≠none) →(∀p∈ids.zip (l.map (·.2.1)),h' p.2≠none→ψ' p.2=ψ p.1)→∀p∈jN l,aC Z' ψ' h' w p.2 (a.tmps.getD p.1 undef)
 |[],_,_,_,_,p,hp=>by simp[jN]at hp
 |(src,mJ,b)::r,ids,hx,hi,jf,p,hp=>by
  simp only[Fk]at hx
  split at hx
  ·rename_i i is h1 h2
   cases hx
   simp only[List.map_cons,List.zip_cons_cons]at jf;have ih:=tj t r is h2 (fun j hj=>hi j (acm _ hj)) (fun p hp=>jf p (acm _ hp)) p
   cases src with
   |slot s =>
    simp only[jN]at hp;rcases acp.1 hp with rfl|hp
    ·simp only[Wy]at h1;obtain⟨sz,h3⟩:=pz h1;have h4:=t.rep s;rw[h3]at h4;exact zX h4 (hi i ac4) (jf (i,mJ) ac4)
    ·exact ih hp
   |cap s j=>exact ih (by simpa only[jN] using hp)
  ·cases hx
theorem HT{hh:Heap}{ids:List (Nat×Nat)}(hi:∀p∈ids,hh.get p.1≠none)(jf:∀p∈ids,h' p.2≠none→ψ' p.2=ψ p.1):∀(cap:List AV) (is Dv:List Nat) (vs:List Value),jL cap=some is → is.map (fun i=>(ids.find? (·.1==i)).map (·.2))=Dv.map some→aq Z ψ hh.get w cap vs→aq Z' ψ' h' w (Dv.map fun i=>.ref i 0 0 0) vs
 |[],is,Dv,vs,h1,h2,hr=>by
  simp only[jL]at h1
  cases h1
  cases Dv with
  |nil=>simpa only[List.map_nil,aq] using hr
  |cons c r=>simp at h2
 |v::cap,is,Dv,vs,h1,h2,hr=>by
  simp only[jL]at h1
  split at h1
  ·rename_i i is' h3 h4
   cases h1
   cases Dv with
   |nil=>simp at h2
   |cons c r =>
    simp only[List.map_cons,List.cons.injEq]at h2;obtain⟨h5,h6⟩:=h2;simp only[List.map_cons,aq]at hr ⊢;obtain⟨u,us,rfl,h7,h8⟩:=hr;obtain⟨sz,rfl⟩:=pz h3
    cases hf:ids.find? (·.1==i) with
    |none=>rw[hf]at h5;cases h5
    |some p =>
     rw[hf]at h5;have hm:=ady hf;have he:=aeE hf;simp only[Option.map_some,Option.some.injEq]at h5;have XW:p.1=i:=by simpa using he
     refine⟨u,us,rfl,zX h7 (by rw[←XW];exact hi p hm) (fun hn=>?_),HT hi jf cap is' r us h4 h6 h8⟩;rw[←h5,←XW];exact jf p hm (by rw[h5];exact hn)
  ·cases h1
theorem yQ(t:cT Z ψ st.heap.get w n (look st.tmps) a){ids:List (Nat×Nat)}(hi:∀p∈ids,st.heap.get p.1≠none)(jf:∀p∈ids,h' p.2≠none→ψ' p.2=ψ p.1):∀(l:List (Nat×FuncId×List Nat)),L5 st ids l=true → ∀p∈zN l,aC Z' ψ' h' w p.2 (a.tmps.getD p.1 undef)
 |[],_,p,hp=>by simp[zN]at hp
 |(s,f,Dv)::r,hx,p,hp=>by
  simp only[L5,Bool.and_eq_true]at hx;simp only[zN,List.map_cons]at hp;rcases acp.1 hp with rfl|hp
  ·have h1:=hx.1
   split at h1
   ·rename_i f' cap hl;simp only[Bool.and_eq_true,decide_eq_true_eq]at h1;obtain⟨rfl,h2⟩:=h1
    split at h2
    ·rename_i is hri;have h4:=t.rep s;rw[hl]at h4;simp only[aC]at h4 ⊢;obtain⟨vs,h5,h6⟩:=h4;exact⟨vs,h5,HT hi jf cap is Dv _ hri (of_decide_eq_true h2) h6⟩
    ·cases h2
   ·cases h1
  ·exact yQ t hi jf r hx.2 p hp
theorem vo(t:cT Z ψ st.heap.get w n (look st.tmps) a):∀(l:List (Nat×Nat×OK)) (x:Ka (l.map (·.2.2))),nD st l=some x→(∀e∈fC st l x,h' e.1≠none→ψ' e.1=jR ψ e.2.1) → ∀p∈(l.map fun p=>(p.1,AV.bK p.2.1)),aC Z' ψ' h' w p.2 (a.tmps.getD p.1 undef)
 |[],_,_,_,p,hp=>by simp at hp
 |(s,id,ok)::r,x,hx,jf,p,hp=>by
  obtain⟨h1,h2⟩:=q7 hx;simp only[fC]at jf;simp only[List.map_cons]at hp;rcases acp.1 hp with rfl|hp
  ·exact Fy h1 (t.rep s) (jf _ ac4)
  ·exact vo t r x.2 h2 (fun e he=>jf e (acm _ he)) p hp
end
theorem vp{st:St}{m:Nat}:∀(l:List (Nat×Nat×OK)) (x:Ka (l.map (·.2.2))),od st m l=true→∃o,(m,some m,o)∈fC st l x
 |[],_,h=>by cases h
 |(s,id,ok)::r,x,h=>by
  simp only[od,Bool.or_eq_true,Bool.and_eq_true,beq_iff_eq]at h;rcases h with⟨rfl,h⟩|h
  ·split at h
   ·rename_i i hl;have hi:i=id:=by simpa using h
    subst hi;exact⟨_,by simp only[fC,hl,o8,List.head?_cons];exact ac4⟩
   ·cases h
  ·obtain⟨o,ho⟩:=vp r x.2 h;exact⟨o,acm _ ho⟩
theorem tk{st:St}{m:Nat}:∀(l:List (Nat×Nat×OK)) (x:Ka (l.map (·.2.2))),nD st l=some x→od st m l=true→st.heap.get m≠none
 |[],_,_,h=>by cases h
 |(s,id,ok)::r,x,hx,h=>by
  obtain⟨h1,h2⟩:=q7 hx;simp only[od,Bool.or_eq_true,Bool.and_eq_true,beq_iff_eq]at h;rcases h with⟨rfl,h⟩|h
  ·split at h
   ·rename_i i hl;have hi:i=id:=by simpa using h
    subst hi;rw[hl]at h1;simp only[dX]at h1
    split at h1
    ·rename_i hg;rw[hg];simp
    ·cases h1
   ·cases h
  ·exact tk r x.2 h2 h
theorem Md{kO:List AV}{hh:Heap}{b:Nat}(hb:qB Z ψ hh.get kO b):Z b∨Own ψ hh.get b:=hb.imp (fun h=>h) fun⟨i,_,h2,h3⟩=>⟨i,h2,h3⟩
theorem gr{sh:Shape}{st:St}{x:sh.T}{n:Nat}{a:Act}(hx:cJ sh st=some x)(k:Ok Z0 w0 O ψ0 Z ψ st.heap.get w)(t:cT Z ψ st.heap.get w n (look st.tmps) a) :
  ∃Z' ψ',Ok Z0 w0 O ψ0 Z' ψ' (ar sh x).heap.get w∧cT Z' ψ' (ar sh x).heap.get w n (look (ar sh x).tmps) a:=by
 unfold cJ at hx
 split at hx
 ·cases hx
 rename_i ids nG
 split at hx
 ·rename_i xv xb xr hv hb hr DB
  cases hx
  simp only[Bool.and_eq_true]at DB;obtain⟨HU,Bh,af5,af6⟩:=DB;obtain⟨hlen,Bj⟩:=jn _ _ _ hb;have WO:(sh.boxes.map (·.2.1)).length=sh.bs.length:=by simp[Shape.bs]
  let L:List yC:=cE sh.bs st.heap ids (sh.boxes.map (·.2.1)) 9000 xb++fC st sh.rows xr
  have eH:dH L=(ar sh (xv,xb,xr)).heap:=by show dH (_++_)=_;rw[mU,jm _ _ _ _ _ _ hb WO,vm];rfl
  have eN:L.map (·.1)=rP sh:=by show(_++_:List yC).map _=_;rw[List.map_append,g8 _ _ _ _ _ _ hb WO,ti];rfl
  have eS:L.filterMap (·.2.1)=Hc st sh ids:=by show(_++_:List yC).filterMap _=_;rw[List.filterMap_append,kl _ _ _ _ _ _ hb WO,yP];rfl
  have hn:cj (L.map (·.1))=true:=by rw[eN];exact Bh
  have jf:=zU (ψ:=ψ) hn;have hz:∀b,Z b→qB Z ψ st.heap.get (zM st sh ids) b:=fun b hb=>.inl hb;have J0:=(r9 HU).2 st.heap;have g':Good (qB Z ψ st.heap.get (zM st sh ids)) (eZ ψ L) (dH L).get w w0.heap.size O:=by
   refine wX k.dZ HU hn eS fun e he=>?_;rcases ac8.1 he with he|he
   ·exact lT k.dZ hz sh.bs ids _ 9000 xb hb (fun id b bS h1 h2=>.inr ⟨id,ac2 _ bS,h1,h2⟩) (fun s hs=>J0 s (acq _ hs)) (fun e he=>jf e (acq _ he)) e he
   ·exact By sh.rows xr hr (fun s hs=>J0 s (ac2 _ hs)) e he
  have Qq:∀p∈ids.zip (sh.boxes.map (·.2.1)),(dH L).get p.2≠none→eZ ψ L p.2=ψ p.1:=fun p hp bw=>by obtain⟨o,ho⟩:=km sh.bs ids (sh.boxes.map (·.2.1)) 9000 xb (hh:=st.heap) hlen p hp;exact jf (p.2,some p.1,o) (acq _ ho) bw
  have zt:∀p∈ids.zip (sh.boxes.map (·.2.1)),st.heap.get p.1≠none:=fun p hp=>Bj _ (List.of_mem_zip hp).1;refine⟨qB Z ψ st.heap.get (zM st sh ids),eZ ψ L,?_,?_⟩
  ·rw[←eH];refine⟨g',fun b hb=>.inl (k.fU b hb),fun b hb=>?_,k.os,k.tape,k.output,k.size,k.block,fun i hi bw=>?_⟩
   ·rcases Md hb with h1|⟨id,h1,h2⟩
    ·exact k.eQ b h1
    ·exact .inr (k.dZ.live id b h1 h2).2.symm
   ·obtain⟨o,ho⟩:=ac9.1 bw;obtain⟨s,hm⟩:=om ho;have gV:i∈rP sh:=by rw[←eN];exact adE.2 ⟨_,hm,rfl⟩
    have h1:=adK.1 af5 i gV;simp only[Bool.or_eq_true,decide_eq_true_eq]at h1;rcases h1 with(h1|h1)|h1
    ·omega
    ·obtain⟨p,hp,he⟩:=List.any_eq_true.1 h1;simp only[Bool.and_eq_true,beq_iff_eq]at he;have h2:=Qq p hp (by rw[he.2];exact bw);rw[he.1,he.2]at h2;rw[h2];exact k.fix i hi (by have:=zt p hp;rwa [he.1]at this)
    ·obtain⟨o',nJ⟩:=vp sh.rows xr h1;have h2:eZ ψ L i=ψ i:=jf (i,some i,o') (ac2 _ nJ) bw;rw[h2];exact k.fix i hi (tk sh.rows xr hr h1)
  ·rw[←eH];refine fa (fun p hp=>?_) t.size t.defers;simp only[ar]at hp;rcases ac8.1 hp with hp|hp
   ·exact vn k.dZ t hz sh.zp xv hv (fun id b bS h1 h2=>.inr ⟨id,acq _ bS,h1,h2⟩) p hp
   ·rcases ac8.1 hp with hp|hp
    ·exact tj t sh.boxes ids nG Bj Qq p hp
    ·rcases ac8.1 hp with hp|hp
     ·exact yQ t zt Qq sh.fns af6 p hp
     ·exact vo t sh.rows xr hr (fun e he=>jf e (ac2 _ he)) p hp
 ·cases hx
end Go.Vs
namespace Go.Vs
variable {P:Program} {Eqs:TypeId→Option K} {Sg:FuncId→Option aS} {F:(f:FuncId)→(g:aS)→g.A→Option g.B} {R:Type}
variable {Z Z' Z0:Nat→Prop} {ψ ψ' ψ0:Nat→Value} {h h':Hp} {w w' w0:World} {B0:Nat} {O N:Nat→Prop}
def Reach(P:Program)(b:Frame)(cs:List Frame)(uc:Act→World→Prop)(m:Machine):Prop:=∃a' w' todo,uc a' w'∧Steps P m (lone { b.at a' todo with mode:=.returning } cs w')
theorem Reach.head{b:Frame}{cs:List Frame}{uc:Act→World→Prop}{m m':Machine}(h:step P m=.next m')(r:Reach P b cs uc m'):Reach P b cs uc m:=by obtain⟨a,w,todo,h1,h2⟩:=r;exact⟨a,w,todo,h1,.head h h2⟩
theorem Reach.steps{b:Frame}{cs:List Frame}{uc:Act→World→Prop}{m m':Machine}(h:Steps P m m')(r:Reach P b cs uc m'):Reach P b cs uc m:=by obtain⟨a,w,todo,h1,h2⟩:=r;exact⟨a,w,todo,h1,h.trans h2⟩
mutual
theorem HV{p:Nat→Prop}(hp:∀i,p i):∀v:AV,aM p v
 |.ref id _ _ _=>by simp only[aM];exact hp id
 |.bK id=>by simp only[aM];exact hp id
 |.fn _ cap=>by simp only[aM];exact sj hp cap
 |.agg cs=>by simp only[aM];exact sj hp cs
 |.ns vs=>by simp only[aM];exact sj hp vs
 |.no=>by simp only[aM]
 |.bool _=>by simp only[aM]
 |.int _ _=>by simp only[aM]
 |.str _=>by simp only[aM]
 |.la=>by simp only[aM]
 |.fZ=>by simp only[aM]
 |.fp _ _ _=>by simp only[aM]
 |.sl _ _ _=>by simp only[aM]
 |.mp _ _ _=>by simp only[aM]
theorem sj{p:Nat→Prop}(hp:∀i,p i):∀l:List AV,aG p l
 |[]=>by simp only[aG]
 |v::r=>by simp only[aG];exact⟨HV hp v,sj hp r⟩
end
theorem U8(s:Nat){n:Nat}{a:Act}{st:St}(k:Ok Z0 w0 O ψ0 Z ψ st.heap.get w)(t:cT Z ψ st.heap.get w n (look st.tmps) a):∃Z',Ok Z0 w0 O ψ0 Z' ψ (PX s st).heap.get w∧cT Z' ψ (PX s st).heap.get w n (look (PX s st).tmps) a:=by
 unfold PX
 split
 ·rename_i m hl
  split
  ·rename_i ty kk xs hg;have g:=k.dZ;obtain⟨vs,QN,tc⟩:=g.row m (.row ty kk) xs hg;have hs:∀i o,(st.heap.del m).get i=some o→st.heap.get i=some o:=fun i o hi=>by rw[uY]at hi;by_cases e:i=m<;>simp_all [eu]
   have gg:=g.freeze (Z':=fun b=>Z b∨ob (ψ m)=some b) (h':=(st.heap.del m).get) hs (fun b hb=>.inl hb) (fun b hb=>hb.imp (fun h=>h) (fun hb=>⟨m,by rw[hg];simp,by rw[uY,bA],hb⟩));have n1:Next Z ψ st.heap.get w w0.heap.size O (fun _=>False) (fun b=>Z b∨ob (ψ m)=some b) ψ (st.heap.del m).get w:=⟨fun b hb=>.inl hb,fun b hb=>hb.imp (fun h=>h) (fun hb=>.inl ⟨m,by rw[hg];simp,hb⟩),dg.refl _ _ _,fun i hi=>by obtain⟨o,ho⟩:=ac9.1 hi;exact .inl ⟨by rw[hs i o ho];simp,rfl⟩,gg⟩;refine⟨_,k.next (fun id h=>h.elim) n1,⟨fun d=>?_,t.size,t.defers⟩⟩;rw[sf _ rfl];have hr:=t.rep d;by_cases hv:look st.tmps d=.bK m
   ·rw[hv]at hr ⊢;simp only[aC]at hr;have hu:=hr.2 (by rw[hg];simp);simp only[zo,if_true,aC];exact⟨by rw[hu];exact uT QN tc (fun b hb=>.inl hb) (fun b hb=>.inr hb),by simp⟩
   ·have hf:zo m (.sl false kk xs) (look st.tmps d)=look st.tmps d:=by
     unfold zo
     split
     ·split
      ·rename_i i hi e;subst e;exact absurd hi hv
      ·rename_i i hi e;exact hi.symm
     ·rfl
    rw[hf];exact n1.rep g (HV (fun _ h=>h) _) hr
  ·exact⟨Z,k,t⟩
 ·exact⟨Z,k,t⟩
theorem QO{n:Nat}{a:Act}(o:Option Shape){st:St}(k:Ok Z0 w0 O ψ0 Z ψ st.heap.get w)(t:cT Z ψ st.heap.get w n (look st.tmps) a):∃Z',Ok Z0 w0 O ψ0 Z' ψ (Hd o st).heap.get w∧cT Z' ψ (Hd o st).heap.get w n (look (Hd o st).tmps) a:=by
 unfold Hd
 split
 ·rename_i sh;generalize sh.rows=l
  induction l generalizing Z st with
  |nil=>exact⟨Z,k,t⟩
  |cons p r ih =>obtain⟨Z1,k1,t1⟩:=U8 p.1 k t;exact ih k1 t1
 ·exact⟨Z,k,t⟩
theorem q8(V:Env P Eqs Sg F)(hm:P.follows .mixedOrders=true){n:Nat}{ann:Nat→Option Shape}{J:(sh:Shape)→List Item→sh.T→Option R}{ret:St→Option R}{r:R}{b:Frame}{cs:List Frame}{uc:Act→World→Prop} (hJ:∀sh c k x Z ψ a w,J sh (.inLoop c::k) x=some r→Ok Z0 w0 O ψ0 Z ψ (ar sh x).heap.get w→cT Z ψ (ar sh x).heap.get w n (look (ar sh x).tmps) a→Reach P b cs uc (lone (b.at a (.code c::.inLoop c::k)) cs w)) (sQ:∀st Z ψ a w,ret st=some r→Ok Z0 w0 O ψ0 Z ψ st.heap.get w→cT Z ψ st.heap.get w n (look st.tmps) a→uc a w) :
  ∀(fu:Nat) (items:List Item) (st:St) (Z:Nat→Prop) (ψ:Nat→Value) (a:Act) (w:World),aE P Eqs Sg F n ann J ret fu items st=some r→Ok Z0 w0 O ψ0 Z ψ st.heap.get w→cT Z ψ st.heap.get w n (look st.tmps) a → Reach P b cs uc (lone (b.at a items) cs w)
 |0,items,st,Z,ψ,a,w,hx,k,t=>by
  cases items<;>simp only[aE]at hx<;>cases hx
 |fu+1,[],st,Z,ψ,a,w,hx,k,t=>⟨a,w,[],sQ st Z ψ a w (by simpa only[aE] using hx) k t,.one step_end⟩
 |fu+1,it::N5,st,Z,ψ,a,w,hx,k,t=>by
  have ih:=q8 V hm (ann:=ann) hJ sQ fu;have loop:∀c,(match ann (rQ c) with
    |none=>none
    |some sh=>match cJ sh st with
     |some x=>J sh (.inLoop c::N5) x
     |none=>none)=some r→Reach P b cs uc (lone (b.at a (.code c::.inLoop c::N5)) cs w):=fun c hx=>by
   split at hx
   ·cases hx
   ·rename_i sh hsh
    split at hx
    ·rename_i x hxx;obtain⟨Z',ψ',k',t'⟩:=gr hxx k t;exact hJ sh c N5 x Z' ψ' a w hx k' t'
    ·cases hx
  cases it with
  |inBlock id=>exact .head step_inBlock (ih N5 st Z ψ a w (by simpa only[aE] using hx) k t)
  |inScope c=>exact .head step_inScope (ih N5 st Z ψ a w (by simpa only[aE] using hx) k t)
  |inLoop c=>exact .head step_inLoop (loop c (by simp only[aE]at hx;exact hx))
  |code c =>
   cases c with
   |skip=>exact .head step_skip (ih N5 st Z ψ a w (by simpa only[aE] using hx) k t)
   |label l=>exact .head step_label (ih N5 st Z ψ a w (by simpa only[aE] using hx) k t)
   |seq x y=>exact .head step_seq (ih _ st Z ψ a w (by simpa only[aE] using hx) k t)
   |cond c x y =>
    simp only[aE]at hx
    split at hx
    ·rename_i tt ht;have h1:=qZ t c;rw[ht]at h1;simp only[aC]at h1
     cases tt with
     |true=>exact .head (step_cond h1) (ih _ st Z ψ a w hx k t)
     |false=>exact .head (step_cond h1) (ih _ st Z ψ a w hx k t)
    ·cases hx
   |scope c=>exact .head step_scope (ih _ st Z ψ a w (by simpa only[aE] using hx) k t)
   |block id c=>exact .head step_block (ih _ st Z ψ a w (by simpa only[aE] using hx) k t)
   |loop c =>
    simp only[aE]at hx
    cases fu with
    |zero=>simp only[aE]at hx;cases hx
    |succ fu=>exact .head step_loop (loop c (by simp only[aE]at hx;exact hx))
   |exit id =>
    simp only[aE]at hx
    split at hx
    ·rename_i k' hk;exact .head (step_exit hk) (ih _ st Z ψ a w hx k t)
    ·cases hx
   |ret=>exact⟨a,w,_,sQ st Z ψ a w (by simpa only[aE] using hx) k t,.one step_ret⟩
   |region id ops draw =>simp only[aE]at hx;obtain⟨Zf,k,t⟩:=QO (ann (500000+id)) k t;have hw:=FL V hm (Q:=fun e a w=>e=.normal∧∃eP Z ψ,aE P Eqs Sg F n ann J ret fu N5 eP=some r∧Ok Z0 w0 O ψ0 Z ψ eP.heap.get w∧cT Z ψ eP.heap.get w n (look eP.tmps) a) hx k t (fun eP Z ψ a w h1 h2 h3=>⟨rfl,eP,Z,ψ,h1,h2,h3⟩);obtain⟨e,a',w',⟨rfl,eP,Z',ψ',h1,h2,h3⟩,Qp⟩:=hw b N5 cs;exact .steps Qp (ih N5 eP Z' ψ' a' w' h1 h2 h3)
   |_=>simp only[aE]at hx;cases hx
  |_=>simp only[aE]at hx;cases hx
theorem q9{hh:Heap}{n:Nat}{s:List (Nat×AV)}{a:Act}(g:Good Z ψ hh.get w B0 O)(t:cT Z ψ hh.get w n (look s) a):∀(l:List ResultVar) (acc:Array Value) (vs:List AV),ym P hh s l=some vs → ∃us,(l.foldlM (fun(bs:Array Value) r=>do let y ←(match r with | .tmp t=>pure (a.tmps.getD t undef) | .cell p ty=>do loadVar ty (←asAddr (a.tmps.getD p undef)):Sem Value);pure (bs.push y)) acc:Sem (Array Value)).run P w=.ok (acc++us.toArray) w∧aq Z ψ hh.get w vs us
 |[],acc,vs,hx=>by
  simp only[ym]at hx
  cases hx
  exact⟨[],by simp,by simp only[aq]⟩
 |.tmp d::l,acc,vs,hx=>by
  simp only[ym]at hx
  split at hx
  ·rename_i g9 h1
   cases hx
   obtain⟨us,h2,h3⟩:=q9 g t l (acc.push (a.tmps.getD d undef)) g9 h1;refine⟨a.tmps.getD d undef::us,?_,by simp only[aq];exact⟨_,_,rfl,t.rep d,h3⟩⟩;simp only[List.foldlM_cons,Sem.run_bind,Sem.run_pure,Result.andThen_ok];rw[h2];simp
  ·cases hx
 |.cell d ty::l,acc,vs,hx=>by
  simp only[ym]at hx
  split at hx
  ·rename_i id sz off hd
   split at hx
   ·rename_i bt cs hg
    split at hx
    ·rename_i v g9 hv h1
     cases hx
     have h4:=t.rep d;rw[hd]at h4;simp only[aC]at h4;obtain⟨ad,h5,h6⟩:=h4;obtain⟨gg,ws,e1,e2,e3,e4⟩:=g.box id bt cs hg;have h7:=h6 (by rw[hg];simp);rw[e1]at h7;simp only[Uz,Nat.zero_mul,Nat.zero_add]at h7;subst h7;obtain⟨V,h8,h9⟩:=jP (a:=⟨gg,off,none⟩) (e3.drop off) (fun j u hu=>by rw[cS];simp only[World.cell?,e2];rw[List.getElem?_drop]at hu;simpa using hu) hv;have nF:(loadVar ty ⟨gg,off,none⟩).run P w=.ok V w:=by have:=h8;simpa[Instr.loadAt,Instr.sureAddr] using this
     obtain⟨us,h2,h3⟩:=q9 g t l (acc.push V) g9 h1;refine⟨V::us,?_,by simp only[aq];exact⟨_,_,rfl,h9,h3⟩⟩;have zq:(asAddr (a.tmps.getD d undef)).run P w=.ok ⟨gg,off,none⟩ w:=by rw[h5];rfl
     simp only[List.foldlM_cons,Sem.run_bind,zq,Sem.run_pure,Result.andThen_ok,nF];rw[h2];simp
    ·cases hx
   ·cases hx
  ·cases hx
theorem HW{fn:Func}{hh:Heap}{n:Nat}{s:List (Nat×AV)}{a:Act}{vs:List AV}(g:Good Z ψ hh.get w B0 O)(t:cT Z ψ hh.get w n (look s) a)(hx:ym P hh s fn.results.toList=some vs) :
  ∃us v,(results fn a.tmps).run P w=.ok v w∧aq Z ψ hh.get w vs us∧v=(if us.length=1 then us.headD undef else .tuple us.toArray):=by
 obtain⟨us,h1,h2⟩:=q9 (P:=P) g t fn.results.toList #[] vs hx;refine⟨us,_,?_,h2,rfl⟩;have h3:(fn.results.mapM fun r=>(match r with | .tmp t=>pure (a.tmps.getD t undef) | .cell p ty=>do loadVar ty (←asAddr (a.tmps.getD p undef)):Sem Value)).run P w=.ok us.toArray w:=by rw[Array.mapM_eq_foldlM,←Array.foldlM_toList];simpa using h1
 have h4:results fn a.tmps=(do
   let vs ←fn.results.mapM fun r=>(match r with | .tmp t=>pure (a.tmps.getD t undef) | .cell p ty=>do loadVar ty (←asAddr (a.tmps.getD p undef)):Sem Value)
   pure (if h:vs.size=1 then vs[0] else .tuple vs)):=rfl
 rw[h4,Sem.run_bind,h3,Result.andThen_ok,Sem.run_pure];congr 1;by_cases h5:us.length=1
 ·obtain⟨u,rfl⟩:=List.length_eq_one_iff.1 h5;simp
 ·rw[dif_neg (by simpa using h5),if_neg h5]
theorem gu:∀(ps:List PK) (ids:List Nat) (s:Nat) (x:G7 (kQ ps)) (us:List Value),aq Z ψ h w ((aZ ps ids s x).map (·.2)) us→us.length=ps.length∧∀p∈aZ ps ids s x,∃j u,p.1=s+j∧us[j]? = some u∧aC Z ψ h w p.2 u
 |[],ids,s,x,us,hr=>by simp only[aZ,List.map_nil,aq]at hr;subst hr;exact⟨rfl,fun p hp=>by simp[aZ]at hp⟩
 |.val k::ps,ids,s,x,us,hr=>by
  simp only[aZ,List.map_cons,aq]at hr;obtain⟨u,iY,rfl,h1,h2⟩:=hr;obtain⟨h3,h4⟩:=gu ps ids (s+1) x.2 iY h2;refine⟨by simp[h3],fun p hp=>?_⟩;simp only[aZ]at hp;rcases acp.1 hp with rfl|hp
  ·exact⟨0,u,rfl,rfl,h1⟩
  ·obtain⟨j,u',h5,h6,h7⟩:=h4 p hp;exact⟨j+1,u',by omega,by simpa using h6,h7⟩
 |.ref::ps,i::ids,s,x,us,hr=>by
  simp only[aZ,List.map_cons,aq]at hr;obtain⟨u,iY,rfl,h1,h2⟩:=hr;obtain⟨h3,h4⟩:=gu ps ids (s+1) x iY h2;refine⟨by simp[h3],fun p hp=>?_⟩;simp only[aZ]at hp;rcases acp.1 hp with rfl|hp
  ·exact⟨0,u,rfl,rfl,h1⟩
  ·obtain⟨j,u',h5,h6,h7⟩:=h4 p hp;exact⟨j+1,u',by omega,by simpa using h6,h7⟩
 |.ref::ps,[],s,x,us,hr=>by
  simp only[aZ,List.map_cons,aq]at hr;obtain⟨u,iY,rfl,h1,h2⟩:=hr;obtain⟨h3,h4⟩:=gu ps [] (s+1) x iY h2;refine⟨by simp[h3],fun p hp=>?_⟩;simp only[aZ]at hp;rcases acp.1 hp with rfl|hp
  ·exact⟨0,u,rfl,rfl,h1⟩
  ·obtain⟨j,u',h5,h6,h7⟩:=h4 p hp;exact⟨j+1,u',by omega,by simpa using h6,h7⟩
 |.own::ps,i::ids,s,x,us,hr=>by
  simp only[aZ,List.map_cons,aq]at hr;obtain⟨u,iY,rfl,h1,h2⟩:=hr;obtain⟨h3,h4⟩:=gu ps ids (s+1) x iY h2;refine⟨by simp[h3],fun p hp=>?_⟩;simp only[aZ]at hp;rcases acp.1 hp with rfl|hp
  ·exact⟨0,u,rfl,rfl,h1⟩
  ·obtain⟨j,u',h5,h6,h7⟩:=h4 p hp;exact⟨j+1,u',by omega,by simpa using h6,h7⟩
 |.own::ps,[],s,x,us,hr=>by
  simp only[aZ,List.map_cons,aq]at hr;obtain⟨u,iY,rfl,h1,h2⟩:=hr;obtain⟨h3,h4⟩:=gu ps [] (s+1) x iY h2;refine⟨by simp[h3],fun p hp=>?_⟩;simp only[aZ]at hp;rcases acp.1 hp with rfl|hp
  ·exact⟨0,u,rfl,rfl,h1⟩
  ·obtain⟨j,u',h5,h6,h7⟩:=h4 p hp;exact⟨j+1,u',by omega,by simpa using h6,h7⟩
 |.G1 f m::ps,ids,s,x,us,hr=>by
  simp only[aZ,List.map_cons,aq]at hr;obtain⟨u,iY,rfl,h1,h2⟩:=hr;obtain⟨h3,h4⟩:=gu ps (ids.drop m) (s+1) x iY h2;refine⟨by simp[h3],fun p hp=>?_⟩;simp only[aZ]at hp;rcases acp.1 hp with rfl|hp
  ·exact⟨0,u,rfl,rfl,h1⟩
  ·obtain⟨j,u',h5,h6,h7⟩:=h4 p hp;exact⟨j+1,u',by omega,by simpa using h6,h7⟩
 |.agg m::ps,ids,s,x,us,hr=>by
  simp only[aZ,List.map_cons,aq]at hr;obtain⟨u,iY,rfl,h1,h2⟩:=hr;obtain⟨h3,h4⟩:=gu ps (ids.drop m) (s+1) x iY h2;refine⟨by simp[h3],fun p hp=>?_⟩;simp only[aZ]at hp;rcases acp.1 hp with rfl|hp
  ·exact⟨0,u,rfl,rfl,h1⟩
  ·obtain⟨j,u',h5,h6,h7⟩:=h4 p hp;exact⟨j+1,u',by omega,by simpa using h6,h7⟩
section
variable {An:FuncId→Nat→Option Shape}
theorem Bz(V:Env P Eqs Sg F)(hm:P.follows .mixedOrders=true){f:FuncId}{g:aS}{fn:Func}{y:g.B}{b:Frame}{cs:List Frame}{uc:Act→World→Prop} (sQ:∀st Z ψ a w,qQ P g fn st=some y→Ok Z0 w0 O ψ0 Z ψ st.heap.get w→cT Z ψ st.heap.get w fn.ntmps (look st.tmps) a→uc a w) :
  ∀(n:Nat) (sh:Shape) (c:Code) (k:List Item) (x:sh.T) (Z:Nat→Prop) (ψ:Nat→Value) (a:Act) (w:World),mK P Eqs Sg An F f g fn n sh (.inLoop c::k) x=some y → Ok Z0 w0 O ψ0 Z ψ (ar sh x).heap.get w→cT Z ψ (ar sh x).heap.get w fn.ntmps (look (ar sh x).tmps) a→Reach P b cs uc (lone (b.at a (.code c::.inLoop c::k)) cs w)
 |0,sh,c,k,x,Z,ψ,a,w,hx,_,_=>by simp only[mK]at hx;cases hx
 |n+1,sh,c,k,x,Z,ψ,a,w,hx,ko,t=>by simp only[mK]at hx;exact q8 V hm (fun sh c k x Z ψ a w h1 h2 h3=>Bz V hm sQ n sh c k x Z ψ a w h1 h2 h3) sQ fuel _ _ Z ψ a w hx ko t
theorem FM{n i:Nat}(h:i∈aU n):∃j,j<n∧i=1000+20*j:=by unfold aU at h;obtain⟨j,h1,rfl⟩:=adE.1 h;exact⟨j,aey.1 h1,rfl⟩
theorem QP{α:Type}{l:List α}{a:α}(h:a∈l):(a,a)∈l.zip l:=by
 induction l with
 |nil=>cases h
 |cons b r ih =>
  simp only[List.zip_cons_cons];rcases acp.1 h with rfl|h
  ·exact ac4
  ·exact acm _ (ih h)
theorem KK(V:Env P Eqs Sg F)(hm:P.follows .mixedOrders=true){f:FuncId}{g:aS}{n:Nat}{x:g.A}{y:g.B}(hx:Kb P Eqs Sg An F f g n x=some y):Ed P f g x y:=by
 intro Z ψ0 w kq hg hr;unfold Kb at hx
 split at hx
 ·cases hx
 rename_i fn c WQ;have hf:P.funcs[f%1000]? = some fn∧fn.body=some c:=by
  unfold body at WQ;obtain⟨fn',h1,h2⟩:=adG.1 WQ;obtain⟨c',h3,h4⟩:=aee.1 h2
  cases h4
  exact⟨h1,h3⟩
 split at hx
 ·rename_i hle;simp only[Bool.and_eq_true,decide_eq_true_eq]at hle;obtain⟨hlen,Yk⟩:=gu g.ps (aU g.bs.length) 0 x.1 kq hr;intro cs
  let b:Frame:={ (default:Frame) with fn:=f%1000,kind:=.normal }
  let a0:Act:={ tmps:=kq.toArray++Array.replicate (fn.ntmps-kq.toArray.size) undef,defers:=[] }
  have Yl:Frame.enter P (f%1000) kq.toArray .normal=b.at a0 [.code c]:=by simp[Frame.enter,Frame.at,hf.1,hf.2,b,a0]
  have ok0:Ok Z w (Own ψ0 (pJ g x)) ψ0 Z ψ0 (entry g x).heap.get w :=⟨hg,fun _ h=>h,fun _ h=>.inl h,rfl,rfl,rfl,adj _,fun _ _ _=>rfl,fun _ _ _=>rfl⟩;have tr0:cT Z ψ0 (entry g x).heap.get w fn.ntmps (look (entry g x).tmps) a0:=by
   refine fa (fun p hp=>?_) (by simp[a0];omega) rfl;obtain⟨j,u,h1,h2,h3⟩:=Yk p hp;rw[h1];have hj:j<kq.length:=(aci.1 h2).1;have:a0.tmps.getD (0+j) undef=u:=by rw[Nat.zero_add,Array.getD_eq_getD_getElem?];simp only[a0];rw[Array.getElem?_append_left (by simpa using hj)];simp[h2]
   rw[this];exact h3
  have sQ:∀st Z1 nV a w1,qQ P g fn st=some y→Ok Z w (Own ψ0 (pJ g x)) ψ0 Z1 nV st.heap.get w1→cT Z1 nV st.heap.get w1 fn.ntmps (look st.tmps) a → a.defers=[]∧∃v,(results fn a.tmps).run P w1=.ok v w1∧∃v' Z' ψ',Ending.returned v=.returned v'∧(∀b,Z b→Z' b)∧(∀b,Z' b→Z b∨Own ψ0 (pJ g x) b∨w.heap.size≤b)∧dg ψ0 (pJ g x) w w1 ∧ Good Z' ψ' (jU g y).get w1 w.heap.size (Own ψ0 (pJ g x))∧(∀i∈aU g.bs.length,ψ' i=ψ0 i)∧aC Z' ψ' (jU g y).get w1 (fh (bf g.rs (aU g.bs.length) 2000 3000 y.1)) v':=by
   intro st Z1 nV a w1 sQ k t;refine⟨t.defers,?_⟩;unfold qQ at sQ
   split at sQ
   ·cases sQ
   rename_i vs tN
   split at sQ
   ·rename_i y1 y2 hd hb DB
    cases sQ
    simp only[Bool.and_eq_true]at DB;obtain⟨HU,Bh⟩:=DB;obtain⟨us,v,h1,h2,h3⟩:=HW (P:=P) k.dZ t tN;have WO:(aU g.bs.length).length=g.bs.length:=by simp[aU]
    let L:List yC:=cE g.bs st.heap (aU g.bs.length) (aU g.bs.length) 2000 y2++cH g.rs vs 3000 y1
    have eH:dH L=jU g (y1,y2):=by show dH (_++_)=_;rw[mU,jm _ _ _ _ _ _ hb WO,gI];rfl
    have eN:L.map (·.1)=qE g:=by show(_++_:List yC).map _=_;rw[List.map_append,g8 _ _ _ _ _ _ hb WO,fO];rfl
    have eS:L.filterMap (·.2.1)=de g.bs st.heap (aU g.bs.length)++dS g.rs vs:=by show(_++_:List yC).filterMap _=_;rw[List.filterMap_append,kl _ _ _ _ _ _ hb WO,iM _ _ _ _ hd]
    have hn:cj (L.map (·.1))=true:=by rw[eN];exact Bh
    have jf:=zU (ψ:=nV) hn;have hz:∀b,Z1 b→qB Z1 nV st.heap.get (gi g.rs vs++gh g.bs st.heap (aU g.bs.length)) b:=fun b hb=>.inl hb;have J0:=(r9 HU).2 st.heap;have g':Good (qB Z1 nV st.heap.get (gi g.rs vs++gh g.bs st.heap (aU g.bs.length))) (eZ nV L) (dH L).get w1 w.heap.size (Own ψ0 (pJ g x)):=by
     refine wX k.dZ HU hn eS fun e he=>?_;rcases ac8.1 he with he|he
     ·exact lT k.dZ hz g.bs _ _ 2000 y2 hb (fun id b bS h1 h2=>.inr ⟨id,ac2 _ bS,h1,h2⟩) (fun s hs=>J0 s (acq _ hs)) (fun e he=>jf e (acq _ he)) e he
     ·exact jT g.rs vs 3000 y1 hd (fun s hs=>J0 s (ac2 _ hs)) e he
    obtain⟨Ep,Bj⟩:=jn _ _ _ hb;have PE:=sd (ids2:=aU g.bs.length) (Z':=qB Z1 nV st.heap.get (gi g.rs vs++gh g.bs st.heap (aU g.bs.length))) (ψ':=eZ nV L) (h':=(dH L).get) k.dZ hz hb WO (fun e he=>jf e (acq _ he)) g.rs vs 3000 y1 us hd (fun id b bS h1 h2=>.inr ⟨id,acq _ bS,h1,h2⟩) (fun e he=>jf e (ac2 _ he)) h2;refine⟨v,h1,v,qB Z1 nV st.heap.get (gi g.rs vs++gh g.bs st.heap (aU g.bs.length)),eZ nV L,rfl,fun b hb=>.inl (k.fU b hb),fun b hb=>?_,⟨k.os,k.tape,k.output,k.size,k.block⟩,by rw[←eH];exact g',fun i hi=>?_,?_⟩
    ·rcases Md hb with h4|⟨id,h4,h5⟩
     ·exact k.eQ b h4
     ·exact .inr (k.dZ.live id b h4 h5).2.symm
    ·obtain⟨o,ho⟩:=km (hh:=st.heap) g.bs (aU g.bs.length) (aU g.bs.length) 2000 y2 Ep (i,i) (QP hi);rw[iL hn (List.mem_append_left _ ho)];obtain⟨j,h4,h5⟩:=FM hi;exact k.fix i (by omega) (Bj i hi)
    ·rw[←eH];have P2:us.length=(bf g.rs (aU g.bs.length) 2000 3000 y1).length:=PE.length.symm;rw[h3]
     match hE:bf g.rs (aU g.bs.length) 2000 3000 y1,us,PE,P2 with
     |[],[],PE,_=>simp only[fh];simp only[aC];exact⟨#[],rfl,by simpa using PE⟩
     |[e1],[u],PE,_ =>
      simp only[aq]at PE;obtain⟨u',iY,he,h4,_⟩:=PE
      cases he
      simpa[fh] using h4
     |e1::e2::er,u1::u2::ur,PE,_ =>simp only[fh,aC];exact⟨(u1::u2::ur).toArray,by simp,by simpa using PE⟩
   ·cases sQ
  have reach:=q8 V hm (b:=b) (cs:=cs) (fun sh c k x Z ψ a w h1 h2 h3=>Bz V hm sQ n sh c k x Z ψ a w h1 h2 h3) sQ fuel _ _ Z ψ0 a0 w hx ok0 tr0;obtain⟨a',w',todo,⟨hd,v,vq,hR⟩,hs⟩:=reach;rw[←Yl]at hs;exact⟨.returned v,w',_,hR,hs,rfl,rfl,hd,rfl,fn,hf.1,vq⟩
 ·cases hx
end
theorem HX(hX:∀f g u,Sg f=some g→g.x=some u→iC P (f%1000) u){G:(f:FuncId)→(g:aS)→Option (g.A→Option g.B)}{An:FuncId→Nat→Option Shape}(Dl:∀t k,Eqs t=some k→lQ P t k)(NR:∀f g,Sg f=some g→jo P (f%1000))(hm:P.follows .mixedOrders=true) (hG:∀f g u x y,Sg f=some g→G f g=some u→u x=some y→Ed P f g x y):∀(m:Nat) f g x y,Sg f=some g→Fn P Eqs Sg An G m f g x=some y→Ed P f g x y
 |0,f,g,x,y,hs,hx=>by
  simp only[Fn]at hx
  split at hx
  ·rename_i u hu;exact hG f g u x y hs hu hx
  ·cases hx
 |m+1,f,g,x,y,hs,hx=>by
  simp only[Fn]at hx
  split at hx
  ·rename_i u hu;exact hG f g u x y hs hu hx
  ·exact KK ⟨Dl,fun f g x y h1 h2=>HX hX Dl NR hm hG m f g x y h1 h2,hX,NR⟩ hm hx
end Go.Vs
namespace Go.Vs
abbrev FT:=(f:FuncId)→(g:aS)→g.A→Option g.B
variable {P:Program} {Eqs:TypeId→Option K} {Sg:FuncId→Option aS} {R:Type}
def uH(p:Nat→Prop):Prop:=∃m,∀m',m≤m'→p m'
theorem uH.now{p:Nat→Prop}(h:∀m,p m):uH p:=⟨0,fun m _=>h m⟩
theorem uH.and{p q r:Nat→Prop}(h:uH p)(k:uH q)(hr:∀m,p m→q m→r m):uH r:=by obtain⟨a,ha⟩:=h;obtain⟨b,hb⟩:=k;exact⟨max a b,fun m hm=>hr m (ha m (by omega)) (hb m (by omega))⟩
theorem uH.imp{p r:Nat→Prop}(h:uH p)(hr:∀m,p m→r m):uH r:=by obtain⟨a,ha⟩:=h;exact⟨a,fun m hm=>hr m (ha m hm)⟩
def To(A:Nat→FT)(L:FT):Prop:=∀f g x y,L f g x=some y→uH fun m=>A m f g x=some y
def ToK{α:Type}(A:Nat→α→Option R)(L:α→Option R):Prop:=∀x y,L x=some y→uH fun m=>A m x=some y
def ToJ(A:Nat→(sh:Shape)→List Item→sh.T→Option R)(L:(sh:Shape)→List Item→sh.T→Option R):Prop:=∀sh k x y,L sh k x=some y→uH fun m=>A m sh k x=some y
theorem QQ(h:Heap)(id:Nat)(f:FuncId)(vs:List AV):(∀F F':FT,ji Sg F h id f vs some=ji Sg F' h id f vs some) ∨ ∃ff g x,(∀F F':FT,F ff g x=F' ff g x→ji Sg F h id f vs some=ji Sg F' h id f vs some)∧∀F:FT,F ff g x=none→ji Sg F h id f vs some=none:=by
 unfold ji
 split
 ·exact .inl fun _ _=>rfl
 rename_i g hg
 split
 ·exact .inl fun _ _=>rfl
 split
 ·split
  ·split
   ·rename_i x b hx hb hp;refine .inr ⟨_,g,(x,b),fun F F' e=>by rw[e],fun F e=>by rw[e];rfl⟩
   ·exact .inl fun _ _=>rfl
  ·split
   ·rename_i x b hx hb hp;refine .inr ⟨_,g,(x,b),fun F F' e=>by rw[e],fun F e=>by rw[e];rfl⟩
   ·exact .inl fun _ _=>rfl
 ·exact .inl fun _ _=>rfl
theorem U9{A:Nat→FT}{L:FT}(hA:To A L){h:Heap}{id:Nat}{f:FuncId}{vs:List AV}{e:bL}(he:ji Sg L h id f vs some=some e):uH fun m=>ji Sg (A m) h id f vs some=some e:=by
 rcases QQ (Sg:=Sg) h id f vs with k|⟨ff,g,x,k1,k2⟩
 ·exact .now fun m=>(k _ _).trans he
 ·cases hy:L ff g x with
  |none=>rw[k2 L hy]at he;cases he
  |some y=>exact(hA _ _ _ _ hy).imp fun m hm=>(k1 (A m) L (hm.trans hy.symm)).trans he
theorem HY{A:Nat→FT}{L:FT}(hA:To A L){id:Nat}{h:Heap}{s:List (Nat×AV)}{o:Oper}{e:bL}(he:cY P Eqs Sg L id h s o some=some e):uH fun m=>cY P Eqs Sg (A m) id h s o some=some e:=by
 obtain⟨dst,op,type,pos,after,guard⟩:=o
 cases op with
 |call c =>
  obtain⟨callee,args,argTypes⟩:=c
  cases callee with
  |value f =>
   simp only[cY]at he
   split at he
   ·rename_i f' cap hf;refine(U9 hA he).imp fun m hm=>?_;simp only[cY,hf];exact hm
   ·cases he
  |builtin bi=>cases bi<;>exact .now fun m=>he
  |invoke _ _=>exact .now fun m=>he
 |unOp u _ _=>cases u<;>exact .now fun m=>he
 |makeFunc fn _ _=>cases fn<;>exact .now fun m=>he
 |makeMap _ r=>cases r<;>exact .now fun m=>he
 |next _ b=>cases b<;>exact .now fun m=>he
 |_=>exact .now fun m=>he
theorem uH.all{p:Nat→Nat→Prop}:∀(n:Nat),(∀j,j<n→uH (p j))→uH fun m=>∀j,j<n→p j m
 |0,_=>.now fun m j hj=>absurd hj (Nat.not_lt_zero _)
 |n+1,h=>(uH.all n fun j hj=>h j (by omega)).and (h n (by omega)) fun m h1 h2 j hj=>by
  by_cases e:j=n
  ·subst e;exact h2
  ·exact h1 j (by omega)
theorem KM{h:Heap}{x:AV}{K:Nat→AV→Heap→Option R}{KL:AV→Heap→Option R}(hK:∀v h y,KL v h=some y→uH fun m=>K m v h=some y){r:R}(he:lg h x KL=some r):uH fun m=>lg h x (K m)=some r:=by
 unfold lg at he ⊢
 split at he
 ·rename_i id
  split at he
  ·rename_i kk vk p hg
   try simp only[hg]
   cases hp:p.2 with
   |nil =>simp only[hp,List.isEmpty_nil,cond_true]at he ⊢;exact hK _ _ _ he
   |cons c l =>simp only[hp,List.isEmpty_cons,cond_false]at he ⊢;have h1:=ox he;refine(uH.all _ fun j hj=>?_).imp fun m hm=>mZ (by simp) hm;have h2:=h1 j hj;rw[List.getElem?_eq_getElem hj]at h2 ⊢;simp only[Option.bind_some]at h2 ⊢;exact hK _ _ _ h2
  ·cases he
 ·cases he
theorem QR{h:Heap}{x:AV}{want:Bool}{K:Nat→AV→Option R}{KL:AV→Option R}(hK:∀v y,KL v=some y→uH fun m=>K m v=some y){r:R}(he:uQ h x want KL=some r):uH fun m=>uQ h x want (K m)=some r:=by
 unfold uQ at he ⊢
 split at he
 ·exact hK _ _ he
 ·rename_i xs hv
  cases yu:xs.isEmpty with
  |true =>simp only[yu,cond_true]at he ⊢;have h1:=ox he;exact(uH.all _ fun j hj=>hK _ _ (h1 j hj)).imp fun m hm=>mZ (by decide) hm
  |false =>simp only[yu,cond_false]at he ⊢;exact hK _ _ he
 ·cases he
theorem BA{A:Nat→FT}{L:FT}(hA:To A L){rid:Nat}{draw:Bool}{ops:Array Oper}{b:Array Nat}{K:Nat→St→Option R}{KL:St→Option R}(hK:ToK K KL) :
  ∀(l:List (Nat×Oper)) (st:St) (r:R),bG P Eqs Sg L rid draw ops b l st KL=some r→uH fun m=>bG P Eqs Sg (A m) rid draw ops b l st (K m)=some r
 |[],st,r,he=>hK st r (by simpa only[bG] using he)
 |(i,o)::l,st,r,he=>by
  have ih:=BA hA (rid:=rid) (draw:=draw) (ops:=ops) (b:=b) hK l;have run:∀st:St,(match (if draw then none else pe P (opId rid i) st o) with
    |some eP=>bG P Eqs Sg L rid draw ops b l eP KL
    |none=>match (if draw then none else uP o) with
    |some x=>lg st.heap (ρ st.tmps x) fun v h=>bG P Eqs Sg L rid draw ops b l (({ st with heap:=h }:St).put o.dst v) KL
    |none=>match (if draw then none else isNil P o) with
    |some (x,want)=>uQ st.heap (ρ st.tmps x) want fun v=>bG P Eqs Sg L rid draw ops b l (st.put o.dst v) KL
    |none=>if draw then cY P Eqs Sg L (opId rid i) (gY (ahead rid (b.getD i 0) st.heap) (gZ ops b i st.tmps o)) st.tmps o fun e =>
     if(gR true rid ops b i (b.getD i 0) (gT (gZ ops b i st.tmps o) (ahead rid (b.getD i 0) st.heap) e)&&nC (gZ ops b i st.tmps o) e)=true then
      bG P Eqs Sg L rid draw ops b l ({ st with heap:=match gT (gZ ops b i st.tmps o) (ahead rid (b.getD i 0) st.heap) e with | .wr _ h=>h|e=>e.h st.heap }.put o.dst e.v) KL else none
     else cY P Eqs Sg L (opId rid i) st.heap st.tmps o fun e =>
     if gR false rid ops b i (2 ^ i-1) e then bG P Eqs Sg L rid draw ops b l ({ st with heap:=match e with | .wr _ h=>h|e=>e.h st.heap }.put o.dst e.v) KL else none)=some r →
    uH fun m=>(match (if draw then none else pe P (opId rid i) st o) with
    |some eP=>bG P Eqs Sg (A m) rid draw ops b l eP (K m)
    |none=>match (if draw then none else uP o) with
    |some x=>lg st.heap (ρ st.tmps x) fun v h=>bG P Eqs Sg (A m) rid draw ops b l (({ st with heap:=h }:St).put o.dst v) (K m)
    |none=>match (if draw then none else isNil P o) with
    |some (x,want)=>uQ st.heap (ρ st.tmps x) want fun v=>bG P Eqs Sg (A m) rid draw ops b l (st.put o.dst v) (K m)
    |none=>if draw then cY P Eqs Sg (A m) (opId rid i) (gY (ahead rid (b.getD i 0) st.heap) (gZ ops b i st.tmps o)) st.tmps o fun e =>
     if(gR true rid ops b i (b.getD i 0) (gT (gZ ops b i st.tmps o) (ahead rid (b.getD i 0) st.heap) e)&&nC (gZ ops b i st.tmps o) e)=true then
      bG P Eqs Sg (A m) rid draw ops b l ({ st with heap:=match gT (gZ ops b i st.tmps o) (ahead rid (b.getD i 0) st.heap) e with | .wr _ h=>h|e=>e.h st.heap }.put o.dst e.v) (K m) else none
     else cY P Eqs Sg (A m) (opId rid i) st.heap st.tmps o fun e =>
     if gR false rid ops b i (2 ^ i-1) e then bG P Eqs Sg (A m) rid draw ops b l ({ st with heap:=match e with | .wr _ h=>h|e=>e.h st.heap }.put o.dst e.v) (K m) else none)=some r:=by
   intro st h
   split at h
   ·rename_i eP ow
    try simp only[ow]
    exact ih _ r h
   rename_i ow
   split at h
   ·rename_i x Ei
    try simp only[ow,Ei]
    exact KM (fun v h y hy=>ih _ y hy) h
   rename_i Ei
   split at h
   ·rename_i x want hnl
    try simp only[ow,Ei,hnl]
    exact QR (fun v y hy=>ih _ y hy) h
   rename_i hnl
   try simp only[ow,Ei,hnl]
   cases draw with
   |true =>
    simp only[if_true]at h ⊢;rw[lz]at h;obtain⟨e,h1,h2⟩:=adG.1 h;by_cases hc:(gR true rid ops b i (b.getD i 0) (gT (gZ ops b i st.tmps o) (ahead rid (b.getD i 0) st.heap) e)&&nC (gZ ops b i st.tmps o) e)=true
    ·rw[if_pos hc]at h2;refine(HY hA h1).and (ih _ r h2) fun m h3 h4=>?_;rw[lz,h3,Option.bind_some,if_pos hc];exact h4
    ·rw[if_neg hc]at h2;cases h2
   |false =>
    simp only[Bool.false_eq_true,if_false]at h ⊢;rw[lz]at h;obtain⟨e,h1,h2⟩:=adG.1 h;by_cases hc:gR false rid ops b i (2 ^ i-1) e=true
    ·rw[if_pos hc]at h2;refine(HY hA h1).and (ih _ r h2) fun m h3 h4=>?_;rw[lz,h3,Option.bind_some,if_pos hc];exact h4
    ·rw[if_neg hc]at h2;cases h2
  simp only[bG]at he ⊢
  split at he
  ·rename_i hg
   try simp only[hg]
   exact run _ he
  ·rename_i j want hg
   try simp only[hg]
   split at he
   ·cases he
   ·rename_i d hd
    try simp only[hd]
    split at he
    ·rename_i t ht
     try simp only[ht]
     cases t<;>cases want<;>simp only[cond_true,cond_false,if_true,if_false,Bool.false_eq_true]at he ⊢<;>first|exact run _ he|exact ih _ r he
    ·rename_i ht
     try simp only[ht]
     exact ih _ r he
    ·cases he
theorem DG{A:Nat→FT}{L:FT}(hA:To A L){n rid:Nat}{ops:Array Oper}{draw:Bool}{K:Nat→St→Option R}{KL:St→Option R}(hK:ToK K KL){st:St}{r:R} (he:iw P Eqs Sg L n rid ops draw st KL=some r):uH fun m=>iw P Eqs Sg (A m) n rid ops draw st (K m)=some r:=by
 unfold iw at he ⊢;by_cases hc:((ops.all fun o=>iv n o)&&(!draw || (uM ops (if draw then Region.before ops else #[])&&(AH ops (if draw then Region.before ops else #[])&&cj (ops.toList.filterMap (·.dst)))))&&decide (ops.size≤128))=true
 ·dsimp only at he ⊢
  rw[if_pos hc]at he;refine(BA hA hK _ _ r he).imp fun m hm=>?_;rw[if_pos hc];exact hm
 ·dsimp only at he
  rw[if_neg hc]at he;cases he
theorem gL{A:Nat→FT}{L:FT}(hA:To A L){n:Nat}{ann:Nat→Option Shape}{J:Nat→(sh:Shape)→List Item→sh.T→Option R}{JL:(sh:Shape)→List Item→sh.T→Option R}(hJ:ToJ J JL){ret:St→Option R} :
  ∀(fu:Nat) (items:List Item) (st:St) (r:R),aE P Eqs Sg L n ann JL ret fu items st=some r→uH fun m=>aE P Eqs Sg (A m) n ann (J m) ret fu items st=some r
 |0,items,st,r,he=>by cases items<;>simp only[aE]at he<;>cases he
 |fu+1,[],st,r,he=>.now fun m=>by simpa only[aE] using he
 |fu+1,it::N5,st,r,he=>by
  have ih:=gL hA (n:=n) (ann:=ann) hJ (ret:=ret) fu
  cases it with
  |inBlock id=>simp only[aE]at he ⊢;exact ih _ _ _ he
  |inScope c=>simp only[aE]at he ⊢;exact ih _ _ _ he
  |inLoop c =>
   simp only[aE]at he ⊢
   split at he
   ·cases he
   ·rename_i sh hsh
    try simp only[hsh]
    split at he
    ·rename_i x hx
     try simp only[hx]
     exact hJ _ _ _ _ he
    ·cases he
  |code c =>
   cases c with
   |cond c x y =>
    simp only[aE]at he ⊢
    split at he
    ·rename_i t ht
     try simp only[ht]
     cases t<;>simp only[cond_true,cond_false]at he ⊢<;>exact ih _ _ _ he
    ·cases he
   |exit id =>
    simp only[aE]at he ⊢
    split at he
    ·rename_i k' hk
     try simp only[hk]
     exact ih _ _ _ he
    ·cases he
   |ret=>exact .now fun m=>by simpa only[aE] using he
   |region id ops draw =>simp only[aE]at he ⊢;exact DG hA (K:=fun m eP=>aE P Eqs Sg (A m) n ann (J m) ret fu N5 eP) (fun st y h=>ih N5 st y h) he
   |skip=>simp only[aE]at he ⊢;exact ih _ _ _ he
   |label l=>simp only[aE]at he ⊢;exact ih _ _ _ he
   |seq x y=>simp only[aE]at he ⊢;exact ih _ _ _ he
   |block id c=>simp only[aE]at he ⊢;exact ih _ _ _ he
   |scope c=>simp only[aE]at he ⊢;exact ih _ _ _ he
   |loop c=>simp only[aE]at he ⊢;exact ih _ _ _ he
   |_=>simp only[aE]at he;cases he
  |_=>simp only[aE]at he;cases he
section
variable {An:FuncId→Nat→Option Shape} {G:(f:FuncId)→(g:aS)→Option (g.A→Option g.B)}
def Ym(F F':FT):Prop:=∀f g x y,F f g x=some y→F' f g x=some y
theorem Ym.to{F F':FT}(h:Ym F F'):To (fun _=>F') F:=fun f g x y hy=>.now fun _=>h f g x y hy
theorem uH.get{p:Prop}(h:uH fun _=>p):p:=by obtain⟨m,hm⟩:=h;exact hm m (adj _)
theorem oy{F F':FT}(h:Ym F F'){f:FuncId}{g:aS}{fn:Func}:∀(n n':Nat) (sh:Shape) (k:List Item) (x:sh.T) (y:g.B),n≤n'→mK P Eqs Sg An F f g fn n sh k x=some y→mK P Eqs Sg An F' f g fn n' sh k x=some y
 |0,_,_,_,_,_,_,hx=>by simp only[mK]at hx;cases hx
 |n+1,0,_,_,_,_,hn,_=>by omega
 |n+1,n'+1,sh,k,x,y,hn,hx=>by
  cases k with
  |nil=>simp only[mK]at hx;cases hx
  |cons it k =>
   cases it with
   |inLoop c =>simp only[mK]at hx ⊢;exact(gL h.to (J:=fun _=>mK P Eqs Sg An F' f g fn n') (JL:=mK P Eqs Sg An F f g fn n) (fun sh k x y hy=>.now fun _=>oy h n n' sh k x y (by omega) hy) _ _ _ _ hx).get
   |_=>simp only[mK]at hx;cases hx
theorem N6{F F':FT}(h:Ym F F'){f:FuncId}{g:aS}{n n':Nat}{x:g.A}{y:g.B}(hn:n≤n')(hx:Kb P Eqs Sg An F f g n x=some y):Kb P Eqs Sg An F' f g n' x=some y:=by
 unfold Kb at hx ⊢
 split at hx
 ·cases hx
 ·rename_i fn c hb
  try simp only[hb]
  split at hx
  ·rename_i hc;simp only[if_pos hc];exact(gL h.to (J:=fun _=>mK P Eqs Sg An F' f g fn n') (JL:=mK P Eqs Sg An F f g fn n) (fun sh k x y hy=>.now fun _=>oy h n n' sh k x y hn hy) _ _ _ _ hx).get
  ·cases hx
theorem Ac:∀m,Ym (Fn P Eqs Sg An G m) (Fn P Eqs Sg An G (m+1))
 |0,f,g,x,y,hx=>by
  simp only[Fn]at hx ⊢
  split at hx
  ·rename_i u hu;(try simp only[hu]);exact hx
  ·cases hx
 |m+1,f,g,x,y,hx=>by
  rw[Fn]at hx ⊢
  split at hx
  ·rename_i u hu;(try simp only[hu]);exact hx
  ·rename_i hu
   try simp only[hu]
   exact N6 (Ac m) (Nat.le_succ m) hx
theorem Ad{m m':Nat}(h:m≤m'):Ym (Fn P Eqs Sg An G m) (Fn P Eqs Sg An G m'):=by
 induction h with
 |refl=>exact fun _ _ _ _ h=>h
 |step _ ih=>exact fun f g x y hx=>Ac _ f g x y (ih f g x y hx)
variable (P Eqs Sg An G) in
open Classical in
noncomputable def Fix:FT:=fun f g x=>if h:∃m y,Fn P Eqs Sg An G m f g x=some y then some (Classical.choose (Classical.choose_spec h)) else none
theorem FN:To (Fn P Eqs Sg An G) (Fix P Eqs Sg An G):=fun f g x y hy=>by
 unfold Fix at hy
 split at hy
 ·rename_i h
  cases hy
  exact⟨Classical.choose h,fun m' hm=>Ad hm _ _ _ _ (Classical.choose_spec (Classical.choose_spec h))⟩
 ·cases hy
theorem QS{m:Nat}{f:FuncId}{g:aS}{x:g.A}{y:g.B}(h:Fn P Eqs Sg An G m f g x=some y):Fix P Eqs Sg An G f g x=some y:=by
 have he:∃m y,Fn P Eqs Sg An G m f g x=some y:=⟨m,y,h⟩
 cases hy:Fix P Eqs Sg An G f g x with
 |none=>unfold Fix at hy;rw[dif_pos he]at hy;cases hy
 |some y' =>obtain⟨m1,h1⟩:=FN f g x y' hy;have h2:=h1 (max m m1) (by omega);have h3:=Ad (show m≤max m m1 by omega) f g x y h;rw[h2]at h3;exact h3
variable (P Eqs Sg An G) in
open Classical in
noncomputable def Lp(f:FuncId)(g:aS)(fn:Func)(sh:Shape)(k:List Item)(x:sh.T):Option g.B :=if h:∃m y,mK P Eqs Sg An (Fn P Eqs Sg An G m) f g fn m sh k x=some y then some (Classical.choose (Classical.choose_spec h)) else none
theorem QT{f:FuncId}{g:aS}{fn:Func}:ToJ (fun m=>mK P Eqs Sg An (Fn P Eqs Sg An G m) f g fn m) (Lp P Eqs Sg An G f g fn):=fun sh k x y hy=>by
 unfold Lp at hy
 split at hy
 ·rename_i h
  cases hy
  exact⟨Classical.choose h,fun m' hm=>oy (Ad hm) _ _ _ _ _ _ hm (Classical.choose_spec (Classical.choose_spec h))⟩
 ·cases hy
theorem aaW{m:Nat}{f:FuncId}{g:aS}{fn:Func}{sh:Shape}{k:List Item}{x:sh.T}{y:g.B}(h:mK P Eqs Sg An (Fn P Eqs Sg An G m) f g fn m sh k x=some y):Lp P Eqs Sg An G f g fn sh k x=some y:=by
 have he:∃m y,mK P Eqs Sg An (Fn P Eqs Sg An G m) f g fn m sh k x=some y:=⟨m,y,h⟩
 cases hy:Lp P Eqs Sg An G f g fn sh k x with
 |none=>unfold Lp at hy;rw[dif_pos he]at hy;cases hy
 |some y' =>obtain⟨m1,h1⟩:=QT sh k x y' hy;have h2:=h1 (max m m1) (by omega);have h3:=oy (Ad (show m≤max m m1 by omega)) m (max m m1) sh k x y (by omega) h;exact h2.symm.trans h3
theorem Me{f:FuncId}{g:aS}{x:g.A}{y:g.B}{fn:Func}{c:Code}(hG:G f g=none)(hb:body P (f%1000)=some (fn,c))(hc:(decide (g.ps.length≤fn.ntmps)&&decide (g.bs.length≤8))=true) (h:aE P Eqs Sg (Fix P Eqs Sg An G) fn.ntmps (An f) (Lp P Eqs Sg An G f g fn) (qQ P g fn) fuel [.code c] (entry g x)=some y):Fix P Eqs Sg An G f g x=some y:=by obtain⟨m,hm⟩:=gL (FN (P:=P) (Eqs:=Eqs) (Sg:=Sg) (An:=An) (G:=G)) (QT (f:=f) (g:=g) (fn:=fn)) _ _ _ _ h;refine QS (m:=m+1) ?_;simp only[Fn,hG];unfold Kb;simp only[hb,if_pos hc];exact hm m (adj _)
theorem Er{f:FuncId}{g:aS}{x:g.A}{y:g.B}{u:g.A→Option g.B}(hG:G f g=some u)(h:u x=some y):Fix P Eqs Sg An G f g x=some y:=by refine QS (m:=0) ?_;simp only[Fn,hG];exact h
theorem QU{f:FuncId}{g:aS}{fn:Func}{sh:Shape}{c:Code}{k:List Item}{x:sh.T}{y:g.B} (h:aE P Eqs Sg (Fix P Eqs Sg An G) fn.ntmps (An f) (Lp P Eqs Sg An G f g fn) (qQ P g fn) fuel (.code c::.inLoop c::k) (ar sh x)=some y):Lp P Eqs Sg An G f g fn sh (.inLoop c::k) x=some y:=by obtain⟨m,hm⟩:=gL (FN (P:=P) (Eqs:=Eqs) (Sg:=Sg) (An:=An) (G:=G)) (QT (f:=f) (g:=g) (fn:=fn)) _ _ _ _ h;refine aaW (m:=m+1) ?_;simp only[mK];refine(gL (L:=Fn P Eqs Sg An G m) (Ym.to (Ac m)) (J:=fun _=>mK P Eqs Sg An (Fn P Eqs Sg An G (m+1)) f g fn m) (JL:=mK P Eqs Sg An (Fn P Eqs Sg An G m) f g fn m) (fun sh k x y hy=>.now fun _=>oy (Ac m) m m sh k x y (adj _) hy) _ _ _ _ (hm m (adj _))).get
theorem Ae(hX:∀f g u,Sg f=some g→g.x=some u→iC P (f%1000) u)(Dl:∀t k,Eqs t=some k→lQ P t k)(NR:∀f g,Sg f=some g→jo P (f%1000))(hm:P.follows .mixedOrders=true) (hG:∀f g u x y,Sg f=some g→G f g=some u→u x=some y→Ed P f g x y) {f:FuncId} {g:aS} {x:g.A} {y:g.B} (hs:Sg f=some g) (h:Fix P Eqs Sg An G f g x=some y):Ed P f g x y:=by obtain⟨m,UO⟩:=FN f g x y h;exact HX hX Dl NR hm hG m f g x y hs (UO m (adj _))
end
end Go.Vs
namespace Go.Vs
open Go.Proofs
abbrev ae:=((Int×Int)×Int)
abbrev ID:=(Int×Int)
abbrev ah:=(ID×((List ae)×(ByteArray×Int)))
abbrev ai:=(ID×(ByteArray×Int))
abbrev aj:=((List ah)×(List ai))
abbrev aB:=(ae×ae)
abbrev StateT:=(aj×(List aB))
abbrev ng:=(ID×ae)
abbrev aR:=(Int×(ID×(ID×(ID×(ng×(ng×(Bool×(ByteArray×Int))))))))
abbrev ba:=((List ah)×((List ai)×((List aB)×Unit)))
abbrev lI{α:Type}(l:List α):Int:=((l.length:Nat):Int)
abbrev wI(n:Int):Int:=IntKind.wrap .i64 n
abbrev OI:ID:=(0,0)
abbrev OD:ae:=(OI,0)
abbrev OC:ng:=(OI,OD)
abbrev OB:ByteArray:=⟨#[]⟩
abbrev OS:StateT:=(([],[]),[])
abbrev OW:ba:=([],([],([],())))
abbrev k13:K:=(.pair .str (.int .u64))
abbrev gS:K:=(.pair (.int .i64) (.int .i64))
abbrev k68:K:=(.pair .str (.pair (.int .i64) .bool))
abbrev br:K:=(.pair gS (.int .i64))
abbrev k7:K:=(.pair (.int .i64) (.pair (.int .i64) (.pair .bool (.int .u8))))
abbrev dK:K:=(.pair gS (.pair .str (.int .i64)))
abbrev N7:K:=(.pair gS br)
abbrev cK:K:=(.pair br br)
abbrev dp:K:=(.pair gS (.pair (.sl br) (.pair .str (.int .i64))))
abbrev da:K:=(.pair (.sl dp) (.sl dK))
abbrev js:K:=(.pair da (.sl cK))
abbrev fD:K:=(.pair (.int .i64) (.pair gS (.pair gS (.pair gS (.pair N7 (.pair N7 (.pair .bool (.pair .str (.int .i64)))))))))
abbrev Dm:K:=(.one (.sl fD))
def pP(xs:List ah)(ys:List ai):Bool:=decide (xs.length≤50000000)&&(decide (ys.length≤50000000)&&xs.all fun v=>decide (v.2.1.length≤50000000))
def FO(h:Heap)(id:Nat):List AV→Option (Bool×bL)
 |[.agg [.bK a,.bK b]]=>match dX h (.row 52 dp) (.bK a),dX h (.row 118 dK) (.bK b) with
  |some xs,some ys=>if a=b then none else some (pP xs ys,.new (.agg [.bK (id+128),.bK (id+129)]) [(id+128,.own (.row 52 dp) xs),(id+129,.own (.row 118 dK) ys)])
  |_,_=>none
 |_=>none
abbrev ae6(a:List PK)(b:List RK):aS:={ ps:=a,bs:=[],rs:=b }
abbrev ae7:K:=.int .i64
def HZ:=ae6 [.val js,.val fD] [.val js,.val ae7]
def H3:=ae6 [.val js,.val fD] [.val js,.val ae7]
def QV:=ae6 [.val js,.val js] [.val .bool]
def kT:=ae6 [.val da,.val gS] [.val dp,.val .bool]
def zu:=ae6 [.val gS] [.val .bool]
def pQ:=ae6 [.val da,.val br] [.val gS,.val .bool]
def rf:=ae6 [.val da,.val gS] [.val dK,.val .bool]
def H4:=ae6 [.val da,.val br] [.val (.sl br)]
def DH:=ae6 [.val br] [.val br]
def rh:=ae6 [.val (.sl br),.val br] [.val ae7]
def KN:=ae6 [.val (.sl br),.val br] [.val br,.val .bool]
def BB:=ae6 [.val da,.val da] [.val .bool]
def xd:=ae6 [.val .str] [.val .bool]
def zw:=ae6 [.val ae7] [.val .bool]
def QW:=ae6 [.val js,.val Dm] [.val js,.val ae7]
def H5:=ae6 [.val da] [.own (.row 50 (.sl br))]
def H6:=ae6 [.val da] [.val ae7]
def H7:=ae6 [.val js,.val Dm] [.val js,.val ae7]
def DI:=ae6 [.val da] [.agg [.own (.row 52 dp),.own (.row 118 dK)]]
def FP:=ae6 [.val da] [.val ae7]
def H8:=ae6 [.val Dm] [.val ae7]
def KO:=ae6 [.val fD] [.val ae7]
def DJ:=ae6 [.val js,.val (.sl fD)] [.val js,.val ae7]
def N8:=ae6 [.val fD] [.val ae7]
def FQ:=ae6 [.val da,.val dp] [.val da]
def pR:=ae6 [.val da,.val gS,.val gS] [.val da]
def QX:=ae6 [.val js,.val fD] [.val js,.val ae7]
def QY:=ae6 [.val js,.val fD] [.val js,.val ae7]
def QZ:=ae6 [.val js,.val fD] [.val js,.val ae7]
def zx:=ae6 [.val js,.val fD] [.val js,.val ae7]
def BC:=ae6 [.val js,.val fD] [.val js,.val ae7]
def FR:=ae6 [.val (.sl cK),.val (.sl cK)] [.val .bool]
def N9:=ae6 [.val da,.val br] [.val br,.val .bool]
def DK:=ae6 [.val da,.val gS] [.val ae7]
def sR:=ae6 [.val da] [.own (.row 3 ae7)]
def FU:=ae6 [.val (.sl br),.val (.sl br)] [.val .bool]
def H9:=ae6 [.val Dm] [.val ae7]
def FV:=ae6 [.val da] [.own (.row 33 br)]
def FY:=ae6 [.val da] [.agg [.own (.row 52 dp),.own (.row 118 dK)]]
def Ia:=ae6 [.val (.sl cK)] [.own (.row 54 cK)]
def KP:=ae6 [.val br,.val br] [.val ae7]
def qz:=ae6 [.val da] [.val ae7]
def FZ:=ae6 [.val da] [.val ae7]
def Ra:=ae6 [.val fD] [.val fD,.val ae7]
def BD:aS:={ ps:=[.ref,.val fD],bs:=[.box 155 [.own (.row 52 dp),.own (.row 118 dK),.val (.sl cK)]],rs:=[.val ae7] }
def Oa:=ae6 [.val fD] [.val fD]
def Oc:=ae6 [.val N7] [.val .bool]
def F2:=ae6 [.val gS,.val gS] [.val ae7]
def Od:=ae6 [.val js,.val N7] [.val N7,.val ae7]
def zy:=ae6 [.val da,.val dK] [.val da]
def zz:=ae6 [.val da,.val N7,.val br] [.val da]
def zB:=ae6 [.val (.sl cK),.val cK] [.val (.sl cK)]
def Oe:=ae6 [.val da,.val br] [.val br]
def Og:=ae6 [.val da,.val br] [.val da]
def Ib:=ae6 [.val da,.val br,.val br] [.val da]
def pS:=ae6 [.val (.sl br)] [.own (.row 33 br)]
def Rb:=ae6 [.val da,.val br] [.val br,.val .bool]
def Oh:=ae6 [.val (.sl dp)] [.own (.row 52 dp)]
def Oi:=ae6 [.val (.sl dK)] [.own (.row 118 dK)]
def zF:=ae6 [.val (.sl br)] [.own (.row 33 br)]
def zG:=ae6 [.val da] [.val (.sl gS)]
def vt:=ae6 [.val (.sl gS)] [.val .bool]
def lj:=ae6 [.val da] [.val .bool]
def F3:=ae6 [.val da] [.val ae7,.val ae7,.val ae7,.val ae7]
def ri:=ae6 [.val gS] [.val .bool]
def DL:=ae6 [.val N7] [.val .bool]
def xe:=ae6 [.val .str] [.val .bool]
def Ic:=ae6 [.val ae7] [.val .bool]
def Ie:aS:={ ps:=[.ref,.val dp],bs:=[.box 155 [.own (.row 52 dp),.own (.row 118 dK),.val (.sl cK)]],rs:=[.val ae7] }
def Rc:aS:={ ps:=[.ref,.val fD],bs:=[.box 155 [.own (.row 52 dp),.own (.row 118 dK),.val (.sl cK)]],rs:=[.val ae7] }
def oz:aS:={ ps:=[.ref,.val fD],bs:=[.box 155 [.own (.row 52 dp),.own (.row 118 dK),.val (.sl cK)]],rs:=[.val ae7] }
def BE:aS:={ ps:=[.ref,.val fD],bs:=[.box 155 [.own (.row 52 dp),.own (.row 118 dK),.val (.sl cK)]],rs:=[.val ae7] }
def zH:aS:={ ps:=[.ref,.val fD],bs:=[.box 155 [.own (.row 52 dp),.own (.row 118 dK),.val (.sl cK)]],rs:=[.val ae7] }
def rj:aS:={ ps:=[.ref,.val fD],bs:=[.box 155 [.own (.row 52 dp),.own (.row 118 dK),.val (.sl cK)]],rs:=[.val ae7] }
def Rd:aS:={ ps:=[.ref,.val fD],bs:=[.box 155 [.own (.row 52 dp),.own (.row 118 dK),.val (.sl cK)]],rs:=[.val ae7] }
def Re:=ae6 [.val br] [.val .bool]
def Ig:=ae6 [.val js,.val br] [.val br]
def DM:=ae6 [.val da,.val gS,.val (.sl br)] [.val da]
def yR:=ae6 [.val (.sl br),.val br,.val br] [.own (.row 33 br)]
def tl:=ae6 [.val (.sl cK),.val br] [.val br,.val .bool]
def vu:=ae6 [.val (.sl br),.val br] [.own (.row 33 br)]
def Ih:=ae6 [.val (.sl br),.val br,.val br] [.own (.row 33 br)]
def Ii:=ae6 [.val (.sl br),.val br] [.val br,.val .bool]
def oC:=ae6 [.val da,.val br] [.val ae7]
def Ij:=ae6 [.val br] [.val .bool]
def qq:aS:={ ps:=[.ref,.val gS],bs:=[.box 155 [.own (.row 52 dp),.own (.row 118 dK),.val (.sl cK)]],rs:=[.val ae7,.val .bool] }
def WR:aS:={ ps:=[],bs:=[],rs:=[],x:=some (PW 52 dp) }
def WS:aS:={ ps:=[],bs:=[],rs:=[],x:=some (Ux 52 dp) }
def yS:aS:={ ps:=[.ref,.val gS],bs:=[.box 155 [.own (.row 52 dp),.own (.row 118 dK),.val (.sl cK)]],rs:=[.val ae7] }
def BF:=ae6 [.val gS] [.val br,.val br]
def Ik:=ae6 [.val js,.val N7] [.val N7,.val ae7]
def BG:=ae6 [.val (.sl br),.val br,.val br] [.own (.row 33 br)]
def BH:=ae6 [.val da] [.val .bool]
def nh:aS:={ ps:=[.ref,.val gS],bs:=[.box 155 [.own (.row 52 dp),.own (.row 118 dK),.val (.sl cK)]],rs:=[.val ae7,.val .bool] }
def BI:aS:={ ps:=[.ref,.val br,.val br],bs:=[.box 155 [.own (.row 52 dp),.own (.row 118 dK),.val (.sl cK)]],rs:=[] }
def BJ:aS:={ ps:=[.ref,.val br],bs:=[.box 155 [.own (.row 52 dp),.own (.row 118 dK),.val (.sl cK)]],rs:=[.val br] }
def mb:aS:={ ps:=[.ref,.val br],bs:=[.box 155 [.own (.row 52 dp),.own (.row 118 dK),.val (.sl cK)]],rs:=[.eX 0 [(0,5,0)]] }
def BL:=ae6 [.val (.sl br),.val br] [.own (.row 33 br)]
def WT:aS:={ ps:=[],bs:=[],rs:=[],x:=some (Ux 118 dK) }
def tn:=ae6 [.val (.sl br),.val br,.val br] [.own (.row 33 br)]
def oD:=ae6 [.val br] [.val br]
def rk:=ae6 [.val (.sl br)] [.own (.row 33 br)]
def Il:aS:={ ps:=[.ref,.val fD],bs:=[.box 155 [.own (.row 52 dp),.own (.row 118 dK),.val (.sl cK)]],rs:=[.eX 0 [(0,5,3),(1,4,2)],.eX 0 [(0,5,4),(1,4,3)]] }
def Es:=ae6 [.val dp,.val gS] [.val ae7]
def BM:=ae6 [.val gS,.val gS] [.val ae7]
def WU:aS:={ ps:=[],bs:=[],rs:=[],x:=some (PW 118 dK) }
def tp:=ae6 [.val da,.val gS] [.val dp,.val .bool]
def yT:=ae6 [.val js,.val br] [.val br]
def vv:=ae6 [.val (.sl br),.val br] [.val .bool]
def mf:=ae6 [.val (.sl br),.val br] [.val ae7]
def oE:=ae6 [.val (.sl (.sl br))] [.own (.row 33 br)]
def Im:=ae6 [.val da] [.val ae7]
def Et:=ae6 [.val dK,.val gS] [.val ae7]
def Io:=ae6 [.val (.sl cK),.val cK] [.own (.row 54 cK)]
def BN:=ae6 [.val (.sl br),.val br] [.val br,.val .bool]
def Eu:=ae6 [.val br,.val br] [.val ae7]
def oF:=ae6 [.val (.sl (.sl br))] [.own (.row 33 br)]
def vw:=ae6 [.val (.sl ae7)] [.val ae7]
def BO:=ae6 [.val ae7,.val ae7] [.val ae7]
def Ip:=ae6 [.val dp] [.val gS]
def tq:=ae6 [.val da,.val br] [.val gS,.val .bool]
def Iq:=ae6 [.val (.sl cK),.val br] [.val br,.val .bool]
def Ir:=ae6 [.val da] [.val ae7,.val ae7,.val ae7,.val ae7]
def Ev:=ae6 [.val cK,.val br] [.val ae7]
def WV:aS:={ ps:=[],bs:=[],rs:=[],x:=some (PW 54 cK) }
def BP:=ae6 [.val (.sl br),.val br,.val ae7] [.val br,.val .bool]
def WW:aS:={ ps:=[],bs:=[],rs:=[],x:=some (L4 33 br) }
def BQ:=ae6 [.val ae7] [.val .bool]
def Is:aS:={ ps:=[.val cK,.ref],bs:=[.box 33 [.val ae7,.val ae7,.val ae7]],rs:=[.val .bool] }
def It:=ae6 [.val dp] [.val .bool]
def yU:=ae6 [.val da] [.own (.row 50 (.sl br))]
def yV:=ae6 [.val da] [.val ae7]
def vx:=ae6 [.val da] [.own (.row 33 br)]
def WX:=ae6 [.val da] [.own (.row 28 (.sl gS))]
def Ew:=ae6 [.val da,.val br] [.val br,.val .bool]
def ib:=ae6 [.val da] [.own (.row 3 ae7)]
def yW:=ae6 [.val da,.val br] [.val br,.val .bool]
def Iu:aS:={ ps:=[.own,.val ae7,.val ae7],bs:=[.own (.row 3 ae7)],rs:=[] }
def rl:aS:={ ps:=[.own,.val ae7],bs:=[.own (.row 3 ae7)],rs:=[.val ae7] }
def Ix:=ae6 [.val (.sl br),.val br] [.val br,.val .bool]
def jt:=ae6 [.val (.sl dp),.val gS,.G1 207 0] [.val ae7,.val .bool]
def ju:=ae6 [.val (.sl dK),.val gS,.G1 214 0] [.val ae7,.val .bool]
def kA:=ae6 [.val (.sl br),.G1 195 0] [.val br]
def kB:=ae6 [.val (.sl dp),.G1 109 0,.val gS] [.val dp,.val .bool]
def jv:=ae6 [.val (.sl cK),.val br,.G1 232 0] [.val ae7,.val .bool]
def jw:aS:={ ps:=[.val (.sl cK),.G1 245 1],bs:=[.box 33 [.val br]],rs:=[.val ae7] }
def kC:=ae6 [.val (.sl dp),.G1 239 0] [.val ae7]
def Iy:aS:={ ps:=[],bs:=[],rs:=[],x:=some FO }
def Rf:=ae6 [] []
abbrev k98:K:=(.pair Dm gS)
abbrev k99:K:=(.pair js (.pair ae7 (.sl Dm)))
abbrev jx:=(StateT×(Int×((List (List aR))×Unit)))
abbrev Q0:=((Bool×Unit)×Unit)
abbrev Q1:=((StateT×(Int×Unit))×Unit)
abbrev Q2:=((Int×Unit)×Unit)
abbrev Q3:=(((List aR)×Unit)×Unit)
abbrev Q4:=((StateT×Unit)×Unit)
abbrev Q5:=((aj×Unit)×Unit)
abbrev Q6:=(((List ae)×Unit)×Unit)
abbrev Q7:=((ah×(Bool×Unit))×Unit)
abbrev Q8:=(List aR)
abbrev Q9:=((Int×Unit)×(jx×Unit))
abbrev Oj:=((ai×(Bool×Unit))×Unit)
abbrev F4:=((ae×Unit)×Unit)
abbrev J2:=((ae×(Bool×Unit))×Unit)
abbrev Ol:=((ID×(Bool×Unit))×Unit)
abbrev KQ:=((Int×(Bool×Unit))×(ba×Unit))
abbrev Rg:=((StateT×(aR×Unit))×Unit)
abbrev Yn:=((StateT×((List aR)×Unit))×Unit)
abbrev Q17:=(((List (List aR))×Unit)×Unit)
abbrev Va:=(((List aB)×Unit)×Unit)
abbrev Rh:=((Int×Unit)×(ba×Unit))
abbrev Um:=((aj×(ae×Unit))×Unit)
abbrev Vb:=(((List ae)×(ae×Unit))×Unit)
abbrev WY:=((aR×Unit)×(ba×Unit))
abbrev Q23:=((StateT×Unit)×((List (List aR))×Unit))
abbrev Q24:=(((List aR)×(Int×Unit))×Unit)
abbrev Q25:=(((List (List ae))×Unit)×Unit)
abbrev Q26:=((((List ah)×((List ai)×Unit))×Unit)×Unit)
abbrev ZO:=((ng×Unit)×Unit)
abbrev Q28:=((Int×(Int×Unit))×(jx×Unit))
abbrev Q29:=((StateT×((List (List aR))×Unit))×Unit)
abbrev Q30:=((aj×(ID×Unit))×Unit)
abbrev Q31:=(((Option ((Fin 1)×Nat))×Unit)×(ba×Unit))
abbrev Q32:=(Unit×(jx×Unit))
abbrev Q33:=((ae×(ae×Unit))×Unit)
abbrev Q34:=(((List ae)×(ae×(ae×Unit)))×Unit)
abbrev Q35:=((Int×Unit)×((List Int)×Unit))
abbrev Q36:=((StateT×(Int×Unit))×(jx×Unit))
abbrev Q37:=(((List Bool)×Unit)×((List (List aR))×Unit))
abbrev Q38:=((Bool×(Int×Unit))×(((StateT×Unit)×((aR×Unit)×(ba×(((List ah)×((List ai)×Unit))×Unit))))×Unit))
abbrev Q39:=((Int×Unit)×((ba×((ae×Unit)×((ae×Unit)×((ae×Unit)×Unit))))×Unit))
def alN(_:Heap)(id:Nat):List AV→Option (Bool×bL)
 |[]=>some (true,.new (.ref (id+128) 0 0 0) [(id+128,.box 100 (enc k99 (nX k99)))])
 |_=>none
def akf(h:Heap)(id:Nat):List AV→Option (Bool×bL)
 |[.ref i 0 0 0]=>match DX h i 100 with
  |some cs=>match dL k99 cs with
   |some x=>some (true,.new (.ref (id+128) 0 0 0) [(id+128,.box 100 (enc k99 x))])
   |none=>none
  |none=>none
 |_=>none
def Ex:=ae6 [.val js,.val fD,.val Dm] [.val .bool]
def Iz:=ae6 [] [.val .bool]
def mg:=ae6 [.val js] [.val .bool]
def BR:=ae6 [.val js,.val fD] [.own (.row 37 fD)]
def IA:=ae6 [.val Dm] [.val Dm]
def yX:=ae6 [.val js,.val Dm] [.own (.row 37 fD),.val ae7]
def vz:=ae6 [.val (.sl fD),.val (.sl fD)] [.val .bool]
def Ey:=ae6 [.val js,.val fD] [.own (.row 37 fD)]
def yY:=ae6 [.val js,.val Dm] [.own (.row 37 fD),.val ae7]
def yZ:=ae6 [.val js,.val (.sl fD)] [.val js,.val ae7]
def y0:=ae6 [.val js,.val (.sl fD)] [.val js,.val ae7]
def tu:=ae6 [.val gS,.val .bool,.val .str,.val ae7] [.own (.row 37 fD)]
def IB:=ae6 [.val da,.val fD] [.own (.row 37 fD)]
def oG:=ae6 [.val da,.val fD] [.own (.row 37 fD)]
def IC:=ae6 [.val da,.val fD] [.own (.row 37 fD)]
def kZ:=ae6 [.val gS,.val .bool,.val .str,.val ae7] [.own (.row 37 fD)]
def Ez:=ae6 [.val js,.val fD] [.own (.row 37 fD)]
def BS:=ae6 [.val js,.val fD] [.own (.row 37 fD)]
def BT:=ae6 [.val da,.val gS] [.val dK,.val .bool]
def EA:=ae6 [.val da,.val br,.val br] [.val N7]
def ni:=ae6 [.val (.sl (.sl fD))] [.own (.row 37 fD)]
def EB:=ae6 [.val gS,.val (.sl br),.val br] [.val N7]
def IE:=ae6 [.val dK] [.val gS]
def kD:=ae6 [.val (.sl dK),.G1 138 0,.val gS] [.val dK,.val .bool]
def WZ:aS:={ ps:=[],bs:=[],rs:=[],x:=some (L4 37 fD) }
def Om:=ae6 [] []
def On:=ae6 [] []
def sgs:List (Nat×aS):=[(73,HZ),(45,H3),(22,QV),(79,kT),(87,zu),(124,pQ),(92,rf),(192,H4),(121,DH),(144,rh),(148,KN),(55,BB),(91,xd),(90,zw),(63,QW),(164,H5),(165,H6),(49,H7),(21,DI),(72,FP),(69,H8),(104,KO),(103,DJ),(46,N8),(80,FQ),(81,pR),(82,QX),(83,QY),(84,QZ),(85,zx),(86,BC),(65,FR),(216,N9),(217,DK),(193,sR),(98,FU),(66,H9),(191,FV),(96,FY),(97,Ia),(71,KP),(106,qz),(107,FZ),(132,Ra),(131,BD),(88,Oa),(89,Oc),(105,F2),(114,Od),(115,zy),(116,zz),(117,zB),(118,Oe),(119,Og),(120,Ib),(122,pS),(234,Rb),(127,Oh),(128,Oi),(110,zF),(133,zG),(134,vt),(135,lj),(136,F3),(159,ri),(160,DL),(161,xe),(162,Ic),(152,Ie),(153,Rc),(154,oz),(155,BE),(156,zH),(157,rj),(158,Rd),(123,Re),(143,Ig),(145,DM),(146,yR),(147,tl),(126,vu),(149,Ih),(248,Ii),(163,oC),(190,Ij),(175,qq),(176,WR),(177,WS),(178,yS),(179,BF),(180,Ik),(181,BG),(172,BH),(182,nh),(183,BI),(184,BJ),(185,mb),(141,BL),(186,WT),(187,tn),(188,oD),(169,rk),(189,Il),(207,Es),(208,BM),(211,WU),(74,tp),(212,yT),(166,vv),(168,mf),(170,oE),(204,Im),(214,Et),(215,Io),(140,BN),(195,Eu),(196,oF),(218,vw),(219,BO),(109,Ip),(139,tq),(230,Iq),(226,Ir),(232,Ev),(233,WV),(167,BP),(220,WW),(235,BQ),(245,Is),(239,It),(240,yU),(241,yV),(249,vx),(251,WX),(255,Ew),(256,ib),(258,yW),(259,Iu),(260,rl),(261,Ix),(208206,jt),(215213,ju),(196194,kA),(110108,kB),(233231,jv),(246244,jw),(240238,kC),(500096,Iy),(900025,Rf),(10,Ex),(42,Iz),(43,mg),(44,BR),(47,IA),(48,yX),(50,vz),(51,Ey),(52,yY),(53,yZ),(54,y0),(75,tu),(76,IB),(77,oG),(78,IC),(93,kZ),(94,Ez),(95,BS),(111,BT),(112,EA),(113,ni),(125,EB),(138,IE),(139137,kD),(142,WZ),(2514003,Om),(3537003,On)]
def Sg(f:FuncId):Option aS:=(sgs.find? (fun p=>p.1==f)).map (fun p=>p.2)
def eqs:List (Nat×K):=[(31,gS),(33,br),(35,N7),(37,fD),(118,dK),(54,cK)]
def Eqs(t:TypeId):Option K:=(eqs.find? (fun p=>p.1==t)).map (fun p=>p.2)
def BU:Shape:=⟨[(6,.int .i64)],[(.slot 2,20000,.box 41 [.val da]),(.slot 3,20001,.box 31 [.val gS]),(.slot 4,20002,.box 52 [.val ae7,.val ae7,.own (.row 33 br),.val .str,.val ae7])],[],[]⟩
def BV:Shape:=⟨[(6,.int .i64)],[(.slot 2,20000,.box 41 [.val da]),(.slot 3,20001,.box 33 [.val br]),(.slot 4,20002,.box 31 [.val gS])],[],[]⟩
def BW:Shape:=⟨[(6,.int .i64)],[(.slot 2,20000,.box 41 [.val da]),(.slot 3,20001,.box 31 [.val gS]),(.slot 4,20002,.box 118 [.val dK])],[],[]⟩
def BX:Shape:=⟨[],[(.slot 2,20000,.box 41 [.val da]),(.slot 3,20001,.box 33 [.val br]),(.slot 6,20002,.box 33 [.val br])],[(5,31000,(.row 33 br))],[]⟩
def BY:Shape:=⟨[(0,.sl br),(5,.int .i64)],[(.slot 3,20000,.box 33 [.val br])],[],[]⟩
def BZ:Shape:=⟨[(5,.int .i64)],[(.slot 2,20000,.box 41 [.val da]),(.slot 3,20001,.box 41 [.val da])],[],[]⟩
def B2:Shape:=⟨[(9,.int .i64)],[(.slot 2,20000,.box 41 [.val da]),(.slot 3,20001,.box 41 [.val da])],[],[]⟩
def B3:Shape:=⟨[(0,.str),(3,.int .i64)],[],[],[]⟩
def xf:Shape:=⟨[(6,.int .i64)],[(.slot 1,20000,.box 41 [.val da])],[(3,31000,(.row 50 (.sl br))),(4,31001,(.row 33 br)),(5,31002,(.row 33 br))],[]⟩
def xg:Shape:=⟨[(4,.int .i64),(5,.int .i64)],[],[(3,31000,(.row 3 ae7))],[]⟩
def B4:Shape:=⟨[(7,.int .i64)],[(.slot 2,20000,.box 44 [.val js]),(.slot 3,20001,.box 27 [.val Dm]),(.slot 4,20002,.box 44 [.own (.row 52 dp),.own (.row 118 dK),.own (.row 54 cK)])],[],[]⟩
def B5:Shape:=⟨[(4,.int .i64)],[(.slot 1,20000,.box 41 [.val da]),(.slot 2,20001,.box 41 [.own (.row 52 dp),.own (.row 118 dK)]),(.slot 3,20002,.box 41 [.own (.row 52 dp),.own (.row 118 dK)])],[],[]⟩
def B6:Shape:=⟨[(3,.int .i64)],[(.slot 1,20000,.box 27 [.val Dm])],[],[]⟩
def B7:Shape:=⟨[(18,.sl fD),(19,.int .i64),(20,.int .i64)],[(.slot 4,20000,.box 44 [.own (.row 52 dp),.own (.row 118 dK),.own (.row 54 cK)]),(.slot 6,20001,.box 155 [.own (.row 52 dp),.own (.row 118 dK),.val (.sl cK)])],[],[]⟩
def ud:Shape:=⟨[(6,.bool),(7,.int .i64)],[(.slot 2,20000,.box 41 [.val da]),(.slot 3,20001,.box 52 [.val dp]),(.slot 4,20002,.box 41 [.own (.row 52 dp),.own (.row 118 dK)]),(.slot 5,20003,.box 41 [.own (.row 52 dp),.val (.sl dK)])],[],[]⟩
def xh:Shape:=⟨[(8,.int .i64)],[(.slot 3,20000,.box 41 [.val da]),(.slot 4,20001,.box 31 [.val gS]),(.slot 5,20002,.box 31 [.val gS]),(.slot 6,20003,.box 41 [.own (.row 52 dp),.own (.row 118 dK)]),(.slot 7,20004,.box 41 [.own (.row 52 dp),.own (.row 118 dK)])],[],[]⟩
def xi:Shape:=⟨[(9,.int .i64)],[(.slot 3,20000,.box 41 [.val da]),(.slot 5,20001,.box 31 [.val gS]),(.slot 6,20002,.box 41 [.own (.row 52 dp),.own (.row 118 dK)]),(.slot 7,20003,.box 41 [.own (.row 52 dp),.own (.row 118 dK)])],[],[]⟩
def mh:Shape:=⟨[(12,.sl cK),(13,.int .i64)],[(.slot 4,20000,.box 44 [.own (.row 52 dp),.own (.row 118 dK),.own (.row 54 cK)]),(.slot 8,20001,.box 33 [.val br]),(.slot 9,20002,.box 33 [.val br]),(.slot 10,20003,.box 33 [.val br]),(.slot 11,20004,.box 41 [.val da])],[],[]⟩
def rm:Shape:=⟨[(7,.bool),(8,.int .i64)],[(.slot 2,20000,.box 44 [.val js]),(.slot 3,20001,.box 37 [.val fD]),(.slot 4,20002,.box 44 [.own (.row 52 dp),.own (.row 118 dK),.own (.row 54 cK)]),(.slot 6,20003,.box 41 [.own (.row 52 dp),.own (.row 118 dK)])],[],[]⟩
def rp:Shape:=⟨[(7,.bool),(9,.int .i64)],[(.slot 2,20000,.box 44 [.val js]),(.slot 3,20001,.box 37 [.val fD]),(.slot 4,20002,.box 44 [.own (.row 52 dp),.own (.row 118 dK),.own (.row 54 cK)]),(.slot 6,20003,.box 41 [.own (.row 52 dp),.own (.row 118 dK)])],[],[]⟩
def B8:Shape:=⟨[(0,.sl cK),(1,.sl cK),(5,.int .i64)],[],[],[]⟩
def B9:Shape:=⟨[(5,.int .i64)],[(.slot 2,20000,.box 41 [.val da]),(.slot 3,20001,.box 31 [.val gS])],[],[]⟩
def Ca:Shape:=⟨[(4,.int .i64)],[(.slot 1,20000,.box 41 [.val da])],[(3,31000,(.row 3 ae7))],[]⟩
def xj:Shape:=⟨[(5,.int .i64)],[(.slot 1,20000,.box 41 [.val da])],[(3,31000,(.row 3 ae7))],[]⟩
def rq:Shape:=⟨[(5,.int .i64),(6,.int .i64)],[(.slot 1,20000,.box 41 [.val da])],[(3,31000,(.row 3 ae7))],[]⟩
def Cb:Shape:=⟨[(0,.sl br),(1,.sl br),(5,.int .i64)],[],[],[]⟩
def Cc:Shape:=⟨[(17,.sl fD),(18,.int .i64),(19,.int .i64)],[],[],[]⟩
def Cd:Shape:=⟨[(4,.int .i64)],[(.slot 1,20000,.box 41 [.val da])],[(3,31000,(.row 33 br))],[]⟩
def Ce:Shape:=⟨[(14,.int .i64),(15,.int .i64)],[(.slot 2,20000,.box 41 [.own (.row 52 dp),.own (.row 118 dK)]),(.slot 3,20001,.box 41 [.own (.row 52 dp),.own (.row 118 dK)])],[],[]⟩
def ue:Shape:=⟨[(6,.bool),(7,.int .i64)],[(.slot 2,20000,.box 41 [.val da]),(.slot 3,20001,.box 118 [.val dK]),(.slot 4,20002,.box 41 [.own (.row 52 dp),.own (.row 118 dK)]),(.slot 5,20003,.box 41 [.val (.sl dp),.own (.row 118 dK)])],[],[]⟩
def kU:Shape:=⟨[(0,.sl cK),(8,.bool),(9,.int .i64)],[(.slot 3,20000,.box 54 [.val cK])],[(7,31000,(.row 54 cK))],[]⟩
def xk:Shape:=⟨[(0,.sl br),(3,.int .i64),(4,.int .i64)],[],[],[]⟩
def Cf:Shape:=⟨[(0,.sl br),(3,.int .i64),(6,.int .i64)],[],[(5,31000,(.row 33 br))],[]⟩
def Cg:Shape:=⟨[(4,.int .i64)],[(.slot 1,20000,.box 41 [.val da])],[(3,31000,(.row 31 gS))],[]⟩
def xl:Shape:=⟨[(5,.int .i64)],[(.slot 1,20000,.box 41 [.val da])],[(3,31000,(.row 31 gS))],[]⟩
def xm:Shape:=⟨[(0,.sl gS),(3,.int .i64)],[],[],[]⟩
def uf:Shape:=⟨[(3,.int .i64)],[(.slot 1,20000,.box 41 [.val da])],[],[]⟩
def xn:Shape:=⟨[(3,.int .i64),(4,.sl br),(6,.int .i64)],[(.slot 1,20000,.box 41 [.val da])],[],[]⟩
def xp:Shape:=⟨[(9,.int .i64)],[(.slot 1,20000,.box 41 [.val da])],[],[]⟩
def ug:Shape:=⟨[(9,.int .i64),(10,.int .i64)],[(.slot 1,20000,.box 41 [.val da])],[],[]⟩
def uh:Shape:=⟨[(6,.int .i64),(7,.int .i64)],[(.slot 1,20000,.box 41 [.val da])],[],[]⟩
def xq:Shape:=⟨[(0,.str)],[],[(6,31000,.nW)],[]⟩
def mi:Shape:=⟨[(48,.int .i64),(49,.int .i64)],[(.slot 0,1000,.box 155 [.own (.row 52 dp),.own (.row 118 dK),.val (.sl cK)]),(.slot 5,20001,.box 44 [.val js]),(.slot 7,20002,.box 33 [.val br])],[(9,31000,(.row 33 br)),(47,31001,(.row 35 N7))],[]⟩
def F5:Shape:=⟨[(5,.int .i64),(32,.int .i64),(33,.int .i64)],[(.slot 0,1000,.box 155 [.own (.row 52 dp),.own (.row 118 dK),.val (.sl cK)]),(.slot 7,20001,.box 33 [.val br]),(.slot 8,20002,.box 33 [.val br])],[(31,31000,(.row 33 br))],[]⟩
def xt:Shape:=⟨[(5,.int .i64),(47,.int .i64),(48,.int .i64)],[(.slot 0,1000,.box 155 [.own (.row 52 dp),.own (.row 118 dK),.val (.sl cK)])],[(46,31000,(.row 33 br))],[]⟩
def nN:Shape:=⟨[(113,.int .i64)],[(.slot 0,1000,.box 155 [.own (.row 52 dp),.own (.row 118 dK),.val (.sl cK)]),(.slot 8,20001,.box 33 [.val br]),(.slot 9,20002,.box 33 [.val br]),(.slot 10,20003,.box 33 [.val br])],[],[]⟩
def Ch:Shape:=⟨[(5,.int .i64)],[(.slot 2,20000,.box 44 [.val js]),(.slot 3,20001,.box 33 [.val br]),(.slot 4,20002,.box 33 [.val br])],[],[]⟩
def xu:Shape:=⟨[(2,.sl br),(8,.int .i64)],[(.slot 4,20000,.box 31 [.val gS]),(.slot 6,20001,.box 41 [.own (.row 52 dp),.own (.row 118 dK)]),(.slot 7,20002,.box 41 [.own (.row 52 dp),.own (.row 118 dK)])],[],[]⟩
def so:Shape:=⟨[(0,.sl br),(7,.int .i64),(9,.int .i64)],[(.slot 5,20000,.box 33 [.val br])],[(8,31000,(.row 33 br))],[]⟩
def vA:Shape:=⟨[(0,.sl cK),(6,.int .i64)],[(.slot 3,20000,.box 33 [.val br]),(.slot 4,20001,.box 33 [.val br])],[],[]⟩
def sq:Shape:=⟨[(0,.sl br),(6,.int .i64)],[(.slot 3,20000,.box 33 [.val br])],[(5,31000,(.row 33 br))],[]⟩
def sr:Shape:=⟨[(5,.int .i64),(6,.int .i64)],[(.slot 2,20000,.box 41 [.val da]),(.slot 3,20001,.box 33 [.val br])],[],[]⟩
def pT:Shape:=⟨[(5,.int .i64),(6,.int .i64),(7,.int .i64)],[(.slot 2,20000,.box 41 [.val da]),(.slot 3,20001,.box 33 [.val br])],[],[]⟩
def Af:Shape:=⟨[(7,.int .i64)],[(.slot 0,1000,.box 155 [.own (.row 52 dp),.own (.row 118 dK),.val (.sl cK)]),(.slot 3,20001,.box 33 [.val br]),(.slot 4,20002,.box 33 [.val br]),(.slot 5,20003,.box 33 [.val br])],[],[]⟩
def vB:Shape:=⟨[(12,.int .i64),(13,.int .i64)],[(.slot 0,1000,.box 155 [.own (.row 52 dp),.own (.row 118 dK),.val (.sl cK)]),(.slot 3,20001,.box 33 [.val br])],[],[]⟩
def vC:Shape:=⟨[(12,.int .i64),(13,.int .i64)],[(.slot 2,20000,.box 44 [.val js]),(.slot 3,20001,.box 33 [.val br]),(.slot 4,20002,.box 33 [.val br])],[],[]⟩
def vD:Shape:=⟨[(0,.sl br),(7,.int .i64),(8,.int .i64)],[(.slot 3,20000,.box 33 [.val br])],[],[]⟩
def vE:Shape:=⟨[(0,.sl (.sl br)),(3,.int .i64),(9,.sl (.sl br)),(10,.int .i64),(11,.int .i64)],[],[],[]⟩
def vF:Shape:=⟨[(25,.sl (.sl br)),(26,.int .i64),(27,.int .i64)],[],[(6,31000,(.row 33 br))],[]⟩
def Ag:Shape:=⟨[(3,.int .i64),(6,.sl ae7),(7,.int .i64),(8,.int .i64)],[],[],[]⟩
def vG:Shape:=⟨[(9,.sl dp),(10,.int .i64),(11,.int .i64)],[(.slot 3,20000,.box 33 [.val br]),(.slot 4,20001,.box 31 [.val gS])],[],[]⟩
def vH:Shape:=⟨[(8,.sl dK),(9,.int .i64),(10,.int .i64)],[],[(3,31000,(.row 33 br))],[]⟩
def ss:Shape:=⟨[(18,.sl dp),(19,.int .i64),(20,.int .i64)],[],[(3,31000,(.row 3 ae7)),(4,31001,(.map br ae7))],[]⟩
def vI:Shape:=⟨[(5,.int .i64),(18,.sl dp),(19,.int .i64),(20,.int .i64),(30,.sl br),(31,.int .i64),(32,.int .i64)],[],[(3,31000,(.row 3 ae7)),(4,31001,(.map br ae7))],[]⟩
def pU:Shape:=⟨[(4,.mp br ae7)],[],[(3,31000,(.row 3 ae7)),(42,31001,(.iter br ae7))],[]⟩
def vJ:Shape:=⟨[(61,.int .i64),(62,.int .i64)],[],[(3,31000,(.row 3 ae7)),(13,31001,(.row 3 ae7))],[]⟩
def vK:Shape:=⟨[(11,.sl dp),(12,.int .i64),(13,.int .i64)],[(.slot 3,20000,.box 33 [.val br]),(.slot 4,20001,.box 33 [.val br])],[],[]⟩
def su:Shape:=⟨[(1,.int .i64)],[],[(0,1000,(.row 3 ae7))],[]⟩
def iF:Shape:=⟨[(0,.sl dp),(8,.int .i64),(9,.int .i64),(10,.int .i64)],[(.slot 4,20000,.box 31 [.val gS])],[],[(2,207,[])]⟩
def iG:Shape:=⟨[(0,.sl dK),(8,.int .i64),(9,.int .i64),(10,.int .i64)],[(.slot 4,20000,.box 31 [.val gS])],[],[(2,214,[])]⟩
def jV:Shape:=⟨[(0,.sl br),(6,.int .i64)],[(.slot 4,20000,.box 33 [.val br]),(.slot 5,20001,.box 33 [.val br])],[],[(1,195,[])]⟩
def mj:Shape:=⟨[(11,.sl dp),(12,.int .i64),(13,.int .i64)],[(.slot 5,20000,.box 31 [.val gS]),(.slot 6,20001,.box 52 [.val ae7,.val ae7,.own (.row 33 br),.val .str,.val ae7])],[],[(1,109,[])]⟩
def iH:Shape:=⟨[(0,.sl cK),(8,.int .i64),(9,.int .i64),(10,.int .i64)],[(.slot 4,20000,.box 33 [.val br])],[],[(2,232,[])]⟩
def jW:Shape:=⟨[(0,.sl cK),(7,.int .i64),(8,.int .i64)],[(.cap 1 0,1000,.box 33 [.val br])],[],[(1,245,[1000])]⟩
def jX:Shape:=⟨[(5,.int .i64),(8,.sl dp),(9,.int .i64),(10,.int .i64)],[],[],[(1,239,[])]⟩
def pV:Shape:=⟨[(4,.int .i64),(7,.bool),(8,.bool),(9,.int .i64)],[(.slot 1,20000,.box 41 [.val da])],[],[]⟩
def pW:Shape:=⟨[(7,.bool),(8,.bool),(10,.int .i64)],[(.slot 1,20000,.box 41 [.val da])],[],[]⟩
def vL:Shape:=⟨[(3,.int .i64)],[(.slot 1,20000,.box 44 [.val js])],[],[]⟩
def vM:Shape:=⟨[(23,.sl fD),(24,.int .i64),(25,.int .i64)],[(.slot 2,20000,.box 44 [.val js])],[(8,31000,(.row 37 fD))],[]⟩
def vN:Shape:=⟨[(0,.sl fD),(1,.sl fD),(5,.int .i64)],[],[],[]⟩
def vO:Shape:=⟨[(9,.int .i64)],[(.slot 2,20000,.box 44 [.val js]),(.slot 3,20001,.box 27 [.val Dm])],[(8,31000,(.row 37 fD))],[]⟩
def vP:Shape:=⟨[(18,.sl fD),(19,.int .i64),(20,.int .i64)],[(.slot 4,20000,.box 44 [.val js]),(.slot 6,20001,.box 44 [.val js])],[],[]⟩
def vQ:Shape:=⟨[(1,.sl fD),(6,.int .i64)],[(.slot 2,20000,.box 44 [.val js]),(.slot 4,20001,.box 44 [.own (.row 52 dp),.own (.row 118 dK),.own (.row 54 cK)])],[],[]⟩
def jy:Shape:=⟨[(32,.sl br),(33,.int .i64),(34,.int .i64)],[(.slot 3,20000,.box 37 [.val fD]),(.slot 5,20001,.box 52 [.val dp]),(.slot 7,20002,.box 118 [.val dK]),(.slot 9,20003,.box 37 [.val fD])],[],[]⟩
def sw:Shape:=⟨[(0,.sl (.sl fD)),(3,.int .i64),(9,.sl (.sl fD)),(10,.int .i64),(11,.int .i64)],[],[],[]⟩
def pX:Shape:=⟨[(25,.sl (.sl fD)),(26,.int .i64),(27,.int .i64)],[],[(6,31000,(.row 37 fD))],[]⟩
def ml:Shape:=⟨[(11,.sl dK),(12,.int .i64),(13,.int .i64)],[(.slot 5,20000,.box 31 [.val gS]),(.slot 6,20001,.box 118 [.val dK])],[],[(1,138,[])]⟩
def ans:List (Nat×List (Nat×Shape)):=[(106,[(12,pV),(17,pW)]),(79,[(2,BU)]),(124,[(2,BV)]),(92,[(2,BW)]),(192,[(6,BX)]),(144,[(2,BY)]),(55,[(4,BZ),(12,B2)]),(91,[(2,B3)]),(164,[(5,xf)]),(165,[(4,xg)]),(49,[(5,B4)]),(21,[(3,B5)]),(69,[(4,B6)]),(103,[(3,B7)]),(80,[(4,ud)]),(81,[(3,xh),(8,xi)]),(85,[(18,mh)]),(86,[(4,rm),(12,rp)]),(65,[(4,B8)]),(217,[(2,B9)]),(193,[(3,Ca),(7,xj),(10,rq)]),(98,[(4,Cb)]),(66,[(4,Cc)]),(191,[(3,Cd)]),(96,[(3,Ce)]),(115,[(4,ue)]),(117,[(7,kU)]),(122,[(3,xk),(9,Cf)]),(133,[(3,Cg),(7,xl)]),(134,[(2,xm)]),(135,[(2,uf),(9,xn),(15,xp),(18,ug)]),(136,[(3,uh)]),(161,[(2,xq)]),(154,[(8,mi)]),(155,[(6,F5),(11,xt)]),(157,[(19,nN)]),(143,[(2,Ch)]),(145,[(3,xu)]),(146,[(6,so)]),(147,[(2,vA)]),(126,[(3,sq)]),(163,[(3,sr),(6,pT)]),(184,[(3,Af)]),(185,[(2,vB)]),(212,[(2,vC)]),(168,[(2,vD)]),(196,[(3,vE),(11,vF)]),(218,[(3,Ag)]),(139,[(2,vG)]),(249,[(3,vH)]),(256,[(4,ss),(8,vI),(14,pU),(21,vJ)]),(258,[(2,vK)]),(260,[(1,su)]),(208206,[(3,iF)]),(215213,[(3,iG)]),(196194,[(5,jV)]),(110108,[(2,mj)]),(233231,[(3,iH)]),(246244,[(2,jW)]),(240238,[(3,jX)]),(43,[(2,vL)]),(48,[(6,vM)]),(50,[(4,vN)]),(52,[(6,vO)]),(53,[(3,vP)]),(54,[(2,vQ)]),(77,[(5,jy)]),(113,[(3,sw),(11,pX)]),(139137,[(2,ml)])]
def An(f:FuncId)(key:Nat):Option Shape:=(ans.find? (fun p=>p.1==f)).bind fun p=>(p.2.find? (fun q=>q.1==key)).map (fun q=>q.2)
abbrev JT(g:aS):=(sh:Shape)→List Item→sh.T→Option g.B
noncomputable def bR(f:FuncId)(g:aS)(fn:Func)(F:FT)(J:JT g)(x:g.A):Option g.B:=aE Tryz.prog Eqs Sg F fn.ntmps (An f) J (qQ Tryz.prog g fn) fuel [.code (fn.body.getD .skip)] (entry g x)
noncomputable def eC(f j:Nat)(g:aS)(fn:Func)(sh:Shape)(F:FT)(J:JT g)(x:sh.T):Option g.B:=aE Tryz.prog Eqs Sg F fn.ntmps (An f) J (qQ Tryz.prog g fn) fuel (round (aO Tryz.prog (f%1000) j)) (ar sh x)
end Go.Vs
namespace Go.Vs
open Go.Proofs
variable {G:(f:FuncId)→(g:aS)→Option (g.A→Option g.B)}
noncomputable abbrev FX(G:(f:FuncId)→(g:aS)→Option (g.A→Option g.B)):FT:=Fix Tryz.prog Eqs Sg An G
noncomputable abbrev LX(G:(f:FuncId)→(g:aS)→Option (g.A→Option g.B))(f:FuncId)(g:aS)(fn:Func):JT g:=Lp Tryz.prog Eqs Sg An G f g fn
abbrev HG(G:(f:FuncId)→(g:aS)→Option (g.A→Option g.B)):Prop:=∀f g,(f==240 || f==241)=false→G f g=none
theorem az{f:FuncId}{g:aS}{fn:Func}{x:g.A}{y:g.B}{z:Option g.B}(hG:G f g=none)(e:bR f g fn (FX G) (LX G f g fn) x=z)(h:z=some y) (hb:body Tryz.prog (f%1000)=some (fn,fn.body.getD .skip):=by kernel_rfl) (hc:(decide (g.ps.length≤fn.ntmps)&&decide (g.bs.length≤8))=true:=by kernel_rfl):FX G f g x=some y:=Me hG hb hc (e.trans h)
theorem ao{f j:Nat}{g:aS}{fn:Func}{sh:Shape}{x:sh.T}{y:g.B}{z:Option g.B}(e:eC f j g fn sh (FX G) (LX G f g fn) x=z)(h:z=some y) (hs:(match aO Tryz.prog (f%1000) j with | .inLoop _::_=>true|_=>false)=true:=by kernel_rfl):LX G f g fn sh (aO Tryz.prog (f%1000) j) x=some y:=by
 have h:=e.trans h;unfold eC at h;generalize aO Tryz.prog (f%1000) j=s at hs h ⊢
 split at hs
 ·exact QU h
 ·cases hs
abbrev aaa:=(Int×Unit)
abbrev aab:=(((List ah)×((List ai)×Unit))×(((List ah)×((List ai)×Unit))×Unit))
abbrev aac:=(ae×Unit)
abbrev aad:=(Int×aaa)
abbrev aae:=((aj×Unit)×Unit)
abbrev aaf:=(ID×Unit)
abbrev aai:=((List ae)×Unit)
abbrev aaj:=(aac×Unit)
abbrev aal:=(StateT×Unit)
abbrev aao:=(aj×Unit)
abbrev aap:=((List Int)×Unit)
abbrev aaC:=(Unit×Unit)
abbrev aaD:=((List aR)×Unit)
abbrev aaJ:=(ba×Unit)
abbrev aaN:=((List ae)×aaa)
abbrev aaP:=((List ae)×aad)
abbrev aaQ:=(aR×Unit)
abbrev aaR:=(aaf×Unit)
abbrev aaS:=(ByteArray×aaa)
abbrev aaU:=((List ah)×aad)
abbrev aaX:=(aae×Unit)
end Go.Vs
