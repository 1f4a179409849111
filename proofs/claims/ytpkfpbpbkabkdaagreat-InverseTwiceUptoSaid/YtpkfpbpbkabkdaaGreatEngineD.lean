/- The value semantics is sound -/
import Derived.Test.YtpkfpbpbkabkdaaGreatEngineC
import Derived.Test.YtpkfpbpbkabkdaaGreatProg
import Derived.Scope
import Derived.KernelRfl
set_option linter.unusedSimpArgs false
set_option linter.unusedVariables false
namespace Go.Vs
variable {P:Program} {Eqs:TypeId→Option K} {Sg:FuncId→Option aX} {F:(f:FuncId)→(g:aX)→g.A→Option g.B} {R:Type}
variable {Z Z' Z0:Nat→Prop} {ψ ψ' ψ0:Nat→Value} {h h':Hp} {w w' w0:World} {B0:Nat} {O N:Nat→Prop}
def gK(st:St):(l:List (Nat×Nat×OK))→M0 (l.map (·.2.2))→List Be
 |[],_=>[]
 |(s,id,ok)::r,x=>(id,(qW (look st.tmps s)).head?,.own ok x.1)::gK st r x.2
theorem xN(st:St):∀(l:List (Nat×Nat×OK)) (x:M0 (l.map (·.2.2))),eI (gK st l x)=sX l x
 |[],_=>rfl
 |(s,id,ok)::r,x=>by simp only[gK,sX];rw[←xN st r x.2];rfl
theorem vt(st:St):∀(l:List (Nat×Nat×OK)) (x:M0 (l.map (·.2.2))),(gK st l x).map (·.1)=l.map (·.2.1)
 |[],_=>rfl
 |(s,id,ok)::r,x=>by simp only[gK,List.map_cons];rw[vt st r x.2]
theorem Br(st:St):∀(l:List (Nat×Nat×OK)) (x:M0 (l.map (·.2.2))),(gK st l x).filterMap (·.2.1)=l.flatMap fun p=>qW (look st.tmps p.1)
 |[],_=>rfl
 |(s,id,ok)::r,x=>by simp only[gK,List.flatMap_cons];rw[eZ,Br st r x.2];simp only[];rw[zw]
theorem ti{st:St}{s id:Nat}{ok:OK}{r:List (Nat×Nat×OK)}{x:M0 (((s,id,ok)::r).map (·.2.2))}(hd:pn st ((s,id,ok)::r)=some x):fg st.heap ok (look st.tmps s)=some x.1∧pn st r=some x.2:=by
 have e:pn st ((s,id,ok)::r)=(match fg st.heap ok (look st.tmps s),pn st r with
  |some x,some y=>some ((x,y):ok.T×M0 (r.map (·.2.2)))
  |_,_=>none):=rfl
 rw[e]at hd;clear e;generalize fg st.heap ok (look st.tmps s)=o1 at hd ⊢;generalize pn st r=o2 at hd ⊢
 cases o1 with
 |none=>cases hd
 |some x1 =>
  cases o2 with
  |none=>cases hd
  |some y1=>have:=aby hd;subst this;exact⟨rfl,rfl⟩
theorem DY{hd:Hp}{st:St}:∀(l:List (Nat×Nat×OK)) (x:M0 (l.map (·.2.2))),pn st l=some x→(∀s∈(l.flatMap fun p=>qW (look st.tmps p.1)),hd s=st.heap.get s) → ∀e∈gK st l x,xz Z ψ hd w h' ψ' e
 |[],_,_,_,e,he=>by simp[gK]at he
 |(s,id,ok)::r,x,hx,hk,e,he=>by
  obtain⟨h1,h2⟩:=ti hx;simp only[List.flatMap_cons]at hk;simp only[gK]at he;rcases abd.1 he with rfl|he
  ·exact Pb h1 fun s hs=>hk s (abi _ hs)
  ·exact DY r x.2 h2 (fun s hs=>hk s (abg _ hs)) e he
theorem KM{st:St}{s:Nat}{k:K}{r:List (Nat×K)}{x:J6 (((s,k)::r).map (·.2))}(hd:sV st ((s,k)::r)=some x):hZ k st.heap (look st.tmps s)=some x.1∧sV st r=some x.2:=by
 have e:sV st ((s,k)::r)=(match hZ k st.heap (look st.tmps s),sV st r with
  |some x,some y=>some ((x,y):k.T×J6 (r.map (·.2)))
  |_,_=>none):=rfl
 rw[e]at hd;clear e;generalize hZ k st.heap (look st.tmps s)=o1 at hd ⊢;generalize sV st r=o2 at hd ⊢
 cases o1 with
 |none=>cases hd
 |some x1 =>
  cases o2 with
  |none=>cases hd
  |some y1=>have:=aby hd;subst this;exact⟨rfl,rfl⟩
theorem fZ{T:List (Nat×AV)}{n:Nat}{a:Act}(fX:∀p∈T,aD Z ψ h w p.2 (a.tmps.getD p.1 undef))(hs:a.tmps.size=n)(hd:a.defers=[]):dn Z ψ h w n (look T) a:=by
 refine⟨fun d=>?_,hs,hd⟩
 induction T with
 |nil=>simp only[look,aD]
 |cons p r ih =>
  obtain⟨i,v⟩:=p;simp only[look]
  split
  ·rename_i e;subst e;exact fX _ abp
  ·exact ih fun p hp=>fX p (aa1 _ hp)
section
variable {st:St} {n:Nat} {a:Act}
theorem xO(g:Good Z ψ st.heap.get w B0 O)(t:dn Z ψ st.heap.get w n (look st.tmps) a)(hz:∀b,Z b→Z' b):∀(l:List (Nat×K)) (x:J6 (l.map (·.2))),sV st l=some x →(∀id b,AV.bV id∈(l.flatMap fun p=>(look st.tmps p.1).cells)→st.heap.get id≠none→ob (ψ id)=some b→Z' b)→∀p∈sW l x,aD Z' ψ' h' w p.2 (a.tmps.getD p.1 undef)
 |[],_,_,_,p,hp=>by simp[sW]at hp
 |(s,k)::r,x,hx,hf,p,hp=>by
  obtain⟨h1,h2⟩:=KM hx;simp only[List.flatMap_cons]at hf;simp only[sW]at hp;rcases abd.1 hp with rfl|hp
  ·exact uh g hz (fun id b bR=>hf id b (abi _ bR)) h1 (t.rep s)
  ·exact xO g t hz r x.2 h2 (fun id b bR=>hf id b (abg _ bR)) p hp
theorem vu(t:dn Z ψ st.heap.get w n (look st.tmps) a):∀(l:List (Src×Nat×BK)) (ids:List Nat),Ih st l=some ids→(∀i∈ids,st.heap.get i≠none) →(∀p∈ids.zip (l.map (·.2.1)),h' p.2≠none→ψ' p.2=ψ p.1)→∀p∈kN l,aD Z' ψ' h' w p.2 (a.tmps.getD p.1 undef)
 |[],_,_,_,_,p,hp=>by simp[kN]at hp
 |(src,oH,b)::r,ids,hx,hi,j0,p,hp=>by
  simp only[Ih]at hx
  split at hx
  ·rename_i i is h1 h2
   cases hx
   simp only[List.map_cons,List.zip_cons_cons]at j0;have ih:=vu t r is h2 (fun j hj=>hi j (aa1 _ hj)) (fun p hp=>j0 p (aa1 _ hp)) p
   cases src with
   |slot s =>
    simp only[kN]at hp;rcases abd.1 hp with rfl|hp
    ·simp only[ZT]at h1;obtain⟨sz,h3⟩:=ri h1;have h4:=t.rep s;rw[h3]at h4;exact Cn h4 (hi i abp) (j0 (i,oH) abp)
    ·exact ih hp
   |cap s j=>exact ih (by simpa only[kN] using hp)
  ·cases hx
theorem KN{hh:Heap}{ids:List (Nat×Nat)}(hi:∀p∈ids,hh.get p.1≠none)(j0:∀p∈ids,h' p.2≠none→ψ' p.2=ψ p.1):∀(cap:List AV) (is F7:List Nat) (vs:List Value),kL cap=some is → is.map (fun i=>(ids.find? (·.1==i)).map (·.2))=F7.map some→ax Z ψ hh.get w cap vs→ax Z' ψ' h' w (F7.map fun i=>.ref i 0 0 0) vs
 |[],is,F7,vs,h1,h2,hr=>by
  simp only[kL]at h1
  cases h1
  cases F7 with
  |nil=>simpa only[List.map_nil,ax] using hr
  |cons c r=>simp at h2
 |v::cap,is,F7,vs,h1,h2,hr=>by
  simp only[kL]at h1
  split at h1
  ·rename_i i is' h3 h4
   cases h1
   cases F7 with
   |nil=>simp at h2
   |cons c r =>
    simp only[List.map_cons,List.cons.injEq]at h2;obtain⟨h5,h6⟩:=h2;simp only[List.map_cons,ax]at hr ⊢;obtain⟨u,us,rfl,h7,h8⟩:=hr;obtain⟨sz,rfl⟩:=ri h3
    cases hf:ids.find? (·.1==i) with
    |none=>rw[hf]at h5;cases h5
    |some p =>
     rw[hf]at h5;have hm:=acq hf;have he:=adm hf;simp only[Option.map_some,Option.some.injEq]at h5;have he':p.1=i:=by simpa using he
     refine⟨u,us,rfl,Cn h7 (by rw[←he'];exact hi p hm) (fun hn=>?_),KN hi j0 cap is' r us h4 h6 h8⟩;rw[←h5,←he'];exact j0 p hm (by rw[h5];exact hn)
  ·cases h1
theorem Bu(t:dn Z ψ st.heap.get w n (look st.tmps) a){ids:List (Nat×Nat)}(hi:∀p∈ids,st.heap.get p.1≠none)(j0:∀p∈ids,h' p.2≠none→ψ' p.2=ψ p.1):∀(l:List (Nat×FuncId×List Nat)),O4 st ids l=true → ∀p∈Ch l,aD Z' ψ' h' w p.2 (a.tmps.getD p.1 undef)
 |[],_,p,hp=>by simp[Ch]at hp
 |(s,f,F7)::r,hx,p,hp=>by
  simp only[O4,Bool.and_eq_true]at hx;simp only[Ch,List.map_cons]at hp;rcases abd.1 hp with rfl|hp
  ·have h1:=hx.1
   split at h1
   ·rename_i f' cap hl;simp only[Bool.and_eq_true,decide_eq_true_eq]at h1;obtain⟨rfl,h2⟩:=h1
    split at h2
    ·rename_i is hri;have h4:=t.rep s;rw[hl]at h4;simp only[aD]at h4 ⊢;obtain⟨vs,h5,h6⟩:=h4;exact⟨vs,h5,KN hi j0 cap is F7 _ hri (of_decide_eq_true h2) h6⟩
    ·cases h2
   ·cases h1
  ·exact Bu t hi j0 r hx.2 p hp
theorem xQ(t:dn Z ψ st.heap.get w n (look st.tmps) a):∀(l:List (Nat×Nat×OK)) (x:M0 (l.map (·.2.2))),pn st l=some x→(∀e∈gK st l x,h' e.1≠none→ψ' e.1=kR ψ e.2.1) → ∀p∈(l.map fun p=>(p.1,AV.bV p.2.1)),aD Z' ψ' h' w p.2 (a.tmps.getD p.1 undef)
 |[],_,_,_,p,hp=>by simp at hp
 |(s,id,ok)::r,x,hx,j0,p,hp=>by
  obtain⟨h1,h2⟩:=ti hx;simp only[gK]at j0;simp only[List.map_cons]at hp;rcases abd.1 hp with rfl|hp
  ·exact Is h1 (t.rep s) (j0 _ abp)
  ·exact xQ t r x.2 h2 (fun e he=>j0 e (aa1 _ he)) p hp
end
theorem xR{st:St}{m:Nat}:∀(l:List (Nat×Nat×OK)) (x:M0 (l.map (·.2.2))),qe st m l=true→∃o,(m,some m,o)∈gK st l x
 |[],_,h=>by cases h
 |(s,id,ok)::r,x,h=>by
  simp only[qe,Bool.or_eq_true,Bool.and_eq_true,beq_iff_eq]at h;rcases h with⟨rfl,h⟩|h
  ·split at h
   ·rename_i i hl;have hi:i=id:=by simpa using h
    subst hi;exact⟨_,by simp only[gK,hl,qW,List.head?_cons];exact abp⟩
   ·cases h
  ·obtain⟨o,ho⟩:=xR r x.2 h;exact⟨o,aa1 _ ho⟩
theorem vv{st:St}{m:Nat}:∀(l:List (Nat×Nat×OK)) (x:M0 (l.map (·.2.2))),pn st l=some x→qe st m l=true→st.heap.get m≠none
 |[],_,_,h=>by cases h
 |(s,id,ok)::r,x,hx,h=>by
  obtain⟨h1,h2⟩:=ti hx;simp only[qe,Bool.or_eq_true,Bool.and_eq_true,beq_iff_eq]at h;rcases h with⟨rfl,h⟩|h
  ·split at h
   ·rename_i i hl;have hi:i=id:=by simpa using h
    subst hi;rw[hl]at h1;simp only[fg]at h1
    split at h1
    ·rename_i hg;rw[hg];simp
    ·cases h1
   ·cases h
  ·exact vv r x.2 h2 h
theorem Pf{mj:List AV}{hh:Heap}{b:Nat}(hb:sH Z ψ hh.get mj b):Z b∨Own ψ hh.get b:=hb.imp (fun h=>h) fun⟨i,_,h2,h3⟩=>⟨i,h2,h3⟩
theorem ir{sh:Shape}{st:St}{x:sh.T}{n:Nat}{a:Act}(hx:de sh st=some x)(k:Ok Z0 w0 O ψ0 Z ψ st.heap.get w)(t:dn Z ψ st.heap.get w n (look st.tmps) a) :
  ∃Z' ψ',Ok Z0 w0 O ψ0 Z' ψ' (aA sh x).heap.get w∧dn Z' ψ' (aA sh x).heap.get w n (look (aA sh x).tmps) a:=by
 unfold de at hx
 split at hx
 ·cases hx
 rename_i ids py
 split at hx
 ·rename_i xv xb xr hv hb hr Ge
  cases hx
  simp only[Bool.and_eq_true]at Ge;obtain⟨KO,DI,ajE,ajF⟩:=Ge;obtain⟨hlen,DK⟩:=kd _ _ _ hb;have hl':(sh.boxes.map (·.2.1)).length=sh.bs.length:=by simp[Shape.bs]
  let L:List Be:=cY sh.bs st.heap ids (sh.boxes.map (·.2.1)) 9000 xb++gK st sh.rows xr
  have eH:eI L=(aA sh (xv,xb,xr)).heap:=by show eI (_++_)=_;rw[oR,kc _ _ _ _ _ _ hb hl',xN];rfl
  have eN:L.map (·.1)=ub sh:=by show(_++_:List Be).map _=_;rw[List.map_append,iZ _ _ _ _ _ _ hb hl',vt];rfl
  have eS:L.filterMap (·.2.1)=J9 st sh ids:=by show(_++_:List Be).filterMap _=_;rw[List.filterMap_append,lH _ _ _ _ _ _ hb hl',Br];rfl
  have hn:cG (L.map (·.1))=true:=by rw[eN];exact DI
  have j0:=Cm (ψ:=ψ) hn;have hz:∀b,Z b→sH Z ψ st.heap.get (Cg st sh ids) b:=fun b hb=>.inl hb;have G1:=(uu KO).2 st.heap;have g':Good (sH Z ψ st.heap.get (Cg st sh ids)) (fY ψ L) (eI L).get w w0.heap.size O:=by
   refine zx k.fi KO hn eS fun e he=>?_;rcases abw.1 he with he|he
   ·exact nH k.fi hz sh.bs ids _ 9000 xb hb (fun id b bR h1 h2=>.inr ⟨id,abg _ bR,h1,h2⟩) (fun s hs=>G1 s (abi _ hs)) (fun e he=>j0 e (abi _ he)) e he
   ·exact DY sh.rows xr hr (fun s hs=>G1 s (abg _ hs)) e he
  have TR:∀p∈ids.zip (sh.boxes.map (·.2.1)),(eI L).get p.2≠none→fY ψ L p.2=ψ p.1:=fun p hp bq=>by obtain⟨o,ho⟩:=lJ sh.bs ids (sh.boxes.map (·.2.1)) 9000 xb (hh:=st.heap) hlen p hp;exact j0 (p.2,some p.1,o) (abi _ ho) bq
  have BY:∀p∈ids.zip (sh.boxes.map (·.2.1)),st.heap.get p.1≠none:=fun p hp=>DK _ (List.of_mem_zip hp).1;refine⟨sH Z ψ st.heap.get (Cg st sh ids),fY ψ L,?_,?_⟩
  ·rw[←eH];refine⟨g',fun b hb=>.inl (k.g6 b hb),fun b hb=>?_,k.os,k.tape,k.output,k.size,k.block,fun i hi bq=>?_⟩
   ·rcases Pf hb with h1|⟨id,h1,h2⟩
    ·exact k.fN b h1
    ·exact .inr (k.fi.live id b h1 h2).2.symm
   ·obtain⟨o,ho⟩:=abN.1 bq;obtain⟨s,hm⟩:=qh ho;have gI:i∈ub sh:=by rw[←eN];exact aca.2 ⟨_,hm,rfl⟩
    have h1:=ac3.1 ajE i gI;simp only[Bool.or_eq_true,decide_eq_true_eq]at h1;rcases h1 with(h1|h1)|h1
    ·omega
    ·obtain⟨p,hp,he⟩:=List.any_eq_true.1 h1;simp only[Bool.and_eq_true,beq_iff_eq]at he;have h2:=TR p hp (by rw[he.2];exact bq);rw[he.1,he.2]at h2;rw[h2];exact k.fix i hi (by have:=BY p hp;rwa [he.1]at this)
    ·obtain⟨o',pG⟩:=xR sh.rows xr h1;have h2:fY ψ L i=ψ i:=j0 (i,some i,o') (abg _ pG) bq;rw[h2];exact k.fix i hi (vv sh.rows xr hr h1)
  ·rw[←eH];refine fZ (fun p hp=>?_) t.size t.defers;simp only[aA]at hp;rcases abw.1 hp with hp|hp
   ·exact xO k.fi t hz sh.BV xv hv (fun id b bR h1 h2=>.inr ⟨id,abi _ bR,h1,h2⟩) p hp
   ·rcases abw.1 hp with hp|hp
    ·exact vu t sh.boxes ids py DK TR p hp
    ·rcases abw.1 hp with hp|hp
     ·exact Bu t BY TR sh.fns ajF p hp
     ·exact xQ t sh.rows xr hr (fun e he=>j0 e (abg _ he)) p hp
 ·cases hx
end Go.Vs
namespace Go.Vs
variable {P:Program} {Eqs:TypeId→Option K} {Sg:FuncId→Option aX} {F:(f:FuncId)→(g:aX)→g.A→Option g.B} {R:Type}
variable {Z Z' Z0:Nat→Prop} {ψ ψ' ψ0:Nat→Value} {h h':Hp} {w w' w0:World} {B0:Nat} {O N:Nat→Prop}
def Reach(P:Program)(b:Frame)(cs:List Frame)(wz:Act→World→Prop)(m:Machine):Prop:=∃a' w' todo,wz a' w'∧Steps P m (lone { b.at a' todo with mode:=.returning } cs w')
theorem Reach.head{b:Frame}{cs:List Frame}{wz:Act→World→Prop}{m m':Machine}(h:step P m=.next m')(r:Reach P b cs wz m'):Reach P b cs wz m:=by obtain⟨a,w,todo,h1,h2⟩:=r;exact⟨a,w,todo,h1,.head h h2⟩
theorem Reach.steps{b:Frame}{cs:List Frame}{wz:Act→World→Prop}{m m':Machine}(h:Steps P m m')(r:Reach P b cs wz m'):Reach P b cs wz m:=by obtain⟨a,w,todo,h1,h2⟩:=r;exact⟨a,w,todo,h1,h.trans h2⟩
mutual
theorem KP{p:Nat→Prop}(hp:∀i,p i):∀v:AV,aQ p v
 |.ref id _ _ _=>by simp only[aQ];exact hp id
 |.bV id=>by simp only[aQ];exact hp id
 |.fn _ cap=>by simp only[aQ];exact uA hp cap
 |.agg cs=>by simp only[aQ];exact uA hp cs
 |.pe vs=>by simp only[aQ];exact uA hp vs
 |.no=>by simp only[aQ]
 |.bool _=>by simp only[aQ]
 |.int _ _=>by simp only[aQ]
 |.str _=>by simp only[aQ]
 |.mC=>by simp only[aQ]
 |.ib=>by simp only[aQ]
 |.fp _ _ _=>by simp only[aQ]
 |.sl _ _ _=>by simp only[aQ]
 |.mp _ _ _=>by simp only[aQ]
theorem uA{p:Nat→Prop}(hp:∀i,p i):∀l:List AV,aJ p l
 |[]=>by simp only[aJ]
 |v::r=>by simp only[aJ];exact⟨KP hp v,uA hp r⟩
end
theorem Yr(s:Nat){n:Nat}{a:Act}{st:St}(k:Ok Z0 w0 O ψ0 Z ψ st.heap.get w)(t:dn Z ψ st.heap.get w n (look st.tmps) a):∃Z',Ok Z0 w0 O ψ0 Z' ψ (Tn s st).heap.get w∧dn Z' ψ (Tn s st).heap.get w n (look (Tn s st).tmps) a:=by
 unfold Tn
 split
 ·rename_i m hl
  split
  ·rename_i ty kk xs hg;have g:=k.fi;obtain⟨vs,Ud,xw⟩:=g.row m (.row ty kk) xs hg;have hs:∀i o,(st.heap.del m).get i=some o→st.heap.get i=some o:=fun i o hi=>by rw[xq]at hi;by_cases e:i=m<;>simp_all [fq]
   have gg:=g.freeze (Z':=fun b=>Z b∨ob (ψ m)=some b) (h':=(st.heap.del m).get) hs (fun b hb=>.inl hb) (fun b hb=>hb.imp (fun h=>h) (fun hb=>⟨m,by rw[hg];simp,by rw[xq,bD],hb⟩));have n1:Next Z ψ st.heap.get w w0.heap.size O (fun _=>False) (fun b=>Z b∨ob (ψ m)=some b) ψ (st.heap.del m).get w:=⟨fun b hb=>.inl hb,fun b hb=>hb.imp (fun h=>h) (fun hb=>.inl ⟨m,by rw[hg];simp,hb⟩),dF.refl _ _ _,fun i hi=>by obtain⟨o,ho⟩:=abN.1 hi;exact .inl ⟨by rw[hs i o ho];simp,rfl⟩,gg⟩;refine⟨_,k.next (fun id h=>h.elim) n1,⟨fun d=>?_,t.size,t.defers⟩⟩;rw[uy _ rfl];have hr:=t.rep d;by_cases hv:look st.tmps d=.bV m
   ·rw[hv]at hr ⊢;simp only[aD]at hr;have hu:=hr.2 (by rw[hg];simp);simp only[BU,if_true,aD];exact⟨by rw[hu];exact xk Ud xw (fun b hb=>.inl hb) (fun b hb=>.inr hb),by simp⟩
   ·have hf:BU m (.sl false kk xs) (look st.tmps d)=look st.tmps d:=by
     unfold BU
     split
     ·split
      ·rename_i i hi e;subst e;exact absurd hi hv
      ·rename_i i hi e;exact hi.symm
     ·rfl
    rw[hf];exact n1.rep g (KP (fun _ h=>h) _) hr
  ·exact⟨Z,k,t⟩
 ·exact⟨Z,k,t⟩
theorem Ue{n:Nat}{a:Act}(o:Option Shape){st:St}(k:Ok Z0 w0 O ψ0 Z ψ st.heap.get w)(t:dn Z ψ st.heap.get w n (look st.tmps) a):∃Z',Ok Z0 w0 O ψ0 Z' ψ (Ka o st).heap.get w∧dn Z' ψ (Ka o st).heap.get w n (look (Ka o st).tmps) a:=by
 unfold Ka
 split
 ·rename_i sh;generalize sh.rows=l
  induction l generalizing Z st with
  |nil=>exact⟨Z,k,t⟩
  |cons p r ih =>obtain⟨Z1,k1,t1⟩:=Yr p.1 k t;exact ih k1 t1
 ·exact⟨Z,k,t⟩
theorem tj(V:Env P Eqs Sg F)(hm:P.follows .mixedOrders=true){n:Nat}{ann:Nat→Option Shape}{J:(sh:Shape)→List Item→sh.T→Option R}{ret:St→Option R}{r:R}{b:Frame}{cs:List Frame}{wz:Act→World→Prop} (hJ:∀sh c k x Z ψ a w,J sh (.inLoop c::k) x=some r→Ok Z0 w0 O ψ0 Z ψ (aA sh x).heap.get w→dn Z ψ (aA sh x).heap.get w n (look (aA sh x).tmps) a→Reach P b cs wz (lone (b.at a (.code c::.inLoop c::k)) cs w)) (u6:∀st Z ψ a w,ret st=some r→Ok Z0 w0 O ψ0 Z ψ st.heap.get w→dn Z ψ st.heap.get w n (look st.tmps) a→wz a w) :
  ∀(fu:Nat) (items:List Item) (st:St) (Z:Nat→Prop) (ψ:Nat→Value) (a:Act) (w:World),aH P Eqs Sg F n ann J ret fu items st=some r→Ok Z0 w0 O ψ0 Z ψ st.heap.get w→dn Z ψ st.heap.get w n (look st.tmps) a → Reach P b cs wz (lone (b.at a items) cs w)
 |0,items,st,Z,ψ,a,w,hx,k,t=>by
  cases items<;>simp only[aH]at hx<;>cases hx
 |fu+1,[],st,Z,ψ,a,w,hx,k,t=>⟨a,w,[],u6 st Z ψ a w (by simpa only[aH] using hx) k t,.one step_end⟩
 |fu+1,it::Rt,st,Z,ψ,a,w,hx,k,t=>by
  have ih:=tj V hm (ann:=ann) hJ u6 fu;have loop:∀c,(match ann (uc c) with
    |none=>none
    |some sh=>match de sh st with
     |some x=>J sh (.inLoop c::Rt) x
     |none=>none)=some r→Reach P b cs wz (lone (b.at a (.code c::.inLoop c::Rt)) cs w):=fun c hx=>by
   split at hx
   ·cases hx
   ·rename_i sh hsh
    split at hx
    ·rename_i x hxx;obtain⟨Z',ψ',k',t'⟩:=ir hxx k t;exact hJ sh c Rt x Z' ψ' a w hx k' t'
    ·cases hx
  cases it with
  |inBlock id=>exact .head step_inBlock (ih Rt st Z ψ a w (by simpa only[aH] using hx) k t)
  |inScope c=>exact .head step_inScope (ih Rt st Z ψ a w (by simpa only[aH] using hx) k t)
  |inLoop c=>exact .head step_inLoop (loop c (by simp only[aH]at hx;exact hx))
  |code c =>
   cases c with
   |skip=>exact .head step_skip (ih Rt st Z ψ a w (by simpa only[aH] using hx) k t)
   |label l=>exact .head step_label (ih Rt st Z ψ a w (by simpa only[aH] using hx) k t)
   |seq x y=>exact .head step_seq (ih _ st Z ψ a w (by simpa only[aH] using hx) k t)
   |cond c x y =>
    simp only[aH]at hx
    split at hx
    ·rename_i tt ht;have h1:=tg t c;rw[ht]at h1;simp only[aD]at h1
     cases tt with
     |true=>exact .head (step_cond h1) (ih _ st Z ψ a w hx k t)
     |false=>exact .head (step_cond h1) (ih _ st Z ψ a w hx k t)
    ·cases hx
   |scope c=>exact .head step_scope (ih _ st Z ψ a w (by simpa only[aH] using hx) k t)
   |block id c=>exact .head step_block (ih _ st Z ψ a w (by simpa only[aH] using hx) k t)
   |loop c =>
    simp only[aH]at hx
    cases fu with
    |zero=>simp only[aH]at hx;cases hx
    |succ fu=>exact .head step_loop (loop c (by simp only[aH]at hx;exact hx))
   |exit id =>
    simp only[aH]at hx
    split at hx
    ·rename_i k' hk;exact .head (step_exit hk) (ih _ st Z ψ a w hx k t)
    ·cases hx
   |ret=>exact⟨a,w,_,u6 st Z ψ a w (by simpa only[aH] using hx) k t,.one step_ret⟩
   |region id ops draw =>simp only[aH]at hx;obtain⟨Zf,k,t⟩:=Ue (ann (500000+id)) k t;have hw:=IJ V hm (Q:=fun e a w=>e=.normal∧∃fM Z ψ,aH P Eqs Sg F n ann J ret fu Rt fM=some r∧Ok Z0 w0 O ψ0 Z ψ fM.heap.get w∧dn Z ψ fM.heap.get w n (look fM.tmps) a) hx k t (fun fM Z ψ a w h1 h2 h3=>⟨rfl,fM,Z,ψ,h1,h2,h3⟩);obtain⟨e,a',w',⟨rfl,fM,Z',ψ',h1,h2,h3⟩,TQ⟩:=hw b Rt cs;exact .steps TQ (ih Rt fM Z' ψ' a' w' h1 h2 h3)
   |_=>simp only[aH]at hx;cases hx
  |_=>simp only[aH]at hx;cases hx
theorem tl{hh:Heap}{n:Nat}{s:List (Nat×AV)}{a:Act}(g:Good Z ψ hh.get w B0 O)(t:dn Z ψ hh.get w n (look s) a):∀(l:List ResultVar) (acc:Array Value) (vs:List AV),A2 P hh s l=some vs → ∃us,(l.foldlM (fun(bs:Array Value) r=>do let y ←(match r with | .tmp t=>pure (a.tmps.getD t undef) | .cell p ty=>do loadVar ty (←asAddr (a.tmps.getD p undef)):Sem Value);pure (bs.push y)) acc:Sem (Array Value)).run P w=.ok (acc++us.toArray) w∧ax Z ψ hh.get w vs us
 |[],acc,vs,hx=>by
  simp only[A2]at hx
  cases hx
  exact⟨[],by simp,by simp only[ax]⟩
 |.tmp d::l,acc,vs,hx=>by
  simp only[A2]at hx
  split at hx
  ·rename_i jc h1
   cases hx
   obtain⟨us,h2,h3⟩:=tl g t l (acc.push (a.tmps.getD d undef)) jc h1;refine⟨a.tmps.getD d undef::us,?_,by simp only[ax];exact⟨_,_,rfl,t.rep d,h3⟩⟩;simp only[List.foldlM_cons,Sem.run_bind,Sem.run_pure,Result.andThen_ok];rw[h2];simp
  ·cases hx
 |.cell d ty::l,acc,vs,hx=>by
  simp only[A2]at hx
  split at hx
  ·rename_i id sz off hd
   split at hx
   ·rename_i bt cs hg
    split at hx
    ·rename_i v jc hv h1
     cases hx
     have h4:=t.rep d;rw[hd]at h4;simp only[aD]at h4;obtain⟨ad,h5,h6⟩:=h4;obtain⟨gg,ws,e1,e2,e3,e4⟩:=g.box id bt cs hg;have h7:=h6 (by rw[hg];simp);rw[e1]at h7;simp only[XZ,Nat.zero_mul,Nat.zero_add]at h7;subst h7;obtain⟨V,h8,h9⟩:=kP (a:=⟨gg,off,none⟩) (e3.drop off) (fun j u hu=>by rw[dm];simp only[World.cell?,e2];rw[List.getElem?_drop]at hu;simpa using hu) hv;have oC:(loadVar ty ⟨gg,off,none⟩).run P w=.ok V w:=by have:=h8;simpa[Instr.loadAt,Instr.sureAddr] using this
     obtain⟨us,h2,h3⟩:=tl g t l (acc.push V) jc h1;refine⟨V::us,?_,by simp only[ax];exact⟨_,_,rfl,h9,h3⟩⟩;have BW:(asAddr (a.tmps.getD d undef)).run P w=.ok ⟨gg,off,none⟩ w:=by rw[h5];rfl
     simp only[List.foldlM_cons,Sem.run_bind,BW,Sem.run_pure,Result.andThen_ok,oC];rw[h2];simp
    ·cases hx
   ·cases hx
  ·cases hx
theorem KQ{fn:Func}{hh:Heap}{n:Nat}{s:List (Nat×AV)}{a:Act}{vs:List AV}(g:Good Z ψ hh.get w B0 O)(t:dn Z ψ hh.get w n (look s) a)(hx:A2 P hh s fn.results.toList=some vs) :
  ∃us v,(results fn a.tmps).run P w=.ok v w∧ax Z ψ hh.get w vs us∧v=(if us.length=1 then us.headD undef else .tuple us.toArray):=by
 obtain⟨us,h1,h2⟩:=tl (P:=P) g t fn.results.toList #[] vs hx;refine⟨us,_,?_,h2,rfl⟩;have h3:(fn.results.mapM fun r=>(match r with | .tmp t=>pure (a.tmps.getD t undef) | .cell p ty=>do loadVar ty (←asAddr (a.tmps.getD p undef)):Sem Value)).run P w=.ok us.toArray w:=by rw[Array.mapM_eq_foldlM,←Array.foldlM_toList];simpa using h1
 have h4:results fn a.tmps=(do
   let vs ←fn.results.mapM fun r=>(match r with | .tmp t=>pure (a.tmps.getD t undef) | .cell p ty=>do loadVar ty (←asAddr (a.tmps.getD p undef)):Sem Value)
   pure (if h:vs.size=1 then vs[0] else .tuple vs)):=rfl
 rw[h4,Sem.run_bind,h3,Result.andThen_ok,Sem.run_pure];congr 1;by_cases h5:us.length=1
 ·obtain⟨u,rfl⟩:=List.length_eq_one_iff.1 h5;simp
 ·rw[dif_neg (by simpa using h5),if_neg h5]
theorem iu:∀(ps:List PK) (ids:List Nat) (s:Nat) (x:J6 (mn ps)) (us:List Value),ax Z ψ h w ((bf ps ids s x).map (·.2)) us→us.length=ps.length∧∀p∈bf ps ids s x,∃j u,p.1=s+j∧us[j]? = some u∧aD Z ψ h w p.2 u
 |[],ids,s,x,us,hr=>by simp only[bf,List.map_nil,ax]at hr;subst hr;exact⟨rfl,fun p hp=>by simp[bf]at hp⟩
 |.val k::ps,ids,s,x,us,hr=>by
  simp only[bf,List.map_cons,ax]at hr;obtain⟨u,jU,rfl,h1,h2⟩:=hr;obtain⟨h3,h4⟩:=iu ps ids (s+1) x.2 jU h2;refine⟨by simp[h3],fun p hp=>?_⟩;simp only[bf]at hp;rcases abd.1 hp with rfl|hp
  ·exact⟨0,u,rfl,rfl,h1⟩
  ·obtain⟨j,u',h5,h6,h7⟩:=h4 p hp;exact⟨j+1,u',by omega,by simpa using h6,h7⟩
 |.ref::ps,i::ids,s,x,us,hr=>by
  simp only[bf,List.map_cons,ax]at hr;obtain⟨u,jU,rfl,h1,h2⟩:=hr;obtain⟨h3,h4⟩:=iu ps ids (s+1) x jU h2;refine⟨by simp[h3],fun p hp=>?_⟩;simp only[bf]at hp;rcases abd.1 hp with rfl|hp
  ·exact⟨0,u,rfl,rfl,h1⟩
  ·obtain⟨j,u',h5,h6,h7⟩:=h4 p hp;exact⟨j+1,u',by omega,by simpa using h6,h7⟩
 |.ref::ps,[],s,x,us,hr=>by
  simp only[bf,List.map_cons,ax]at hr;obtain⟨u,jU,rfl,h1,h2⟩:=hr;obtain⟨h3,h4⟩:=iu ps [] (s+1) x jU h2;refine⟨by simp[h3],fun p hp=>?_⟩;simp only[bf]at hp;rcases abd.1 hp with rfl|hp
  ·exact⟨0,u,rfl,rfl,h1⟩
  ·obtain⟨j,u',h5,h6,h7⟩:=h4 p hp;exact⟨j+1,u',by omega,by simpa using h6,h7⟩
 |.own::ps,i::ids,s,x,us,hr=>by
  simp only[bf,List.map_cons,ax]at hr;obtain⟨u,jU,rfl,h1,h2⟩:=hr;obtain⟨h3,h4⟩:=iu ps ids (s+1) x jU h2;refine⟨by simp[h3],fun p hp=>?_⟩;simp only[bf]at hp;rcases abd.1 hp with rfl|hp
  ·exact⟨0,u,rfl,rfl,h1⟩
  ·obtain⟨j,u',h5,h6,h7⟩:=h4 p hp;exact⟨j+1,u',by omega,by simpa using h6,h7⟩
 |.own::ps,[],s,x,us,hr=>by
  simp only[bf,List.map_cons,ax]at hr;obtain⟨u,jU,rfl,h1,h2⟩:=hr;obtain⟨h3,h4⟩:=iu ps [] (s+1) x jU h2;refine⟨by simp[h3],fun p hp=>?_⟩;simp only[bf]at hp;rcases abd.1 hp with rfl|hp
  ·exact⟨0,u,rfl,rfl,h1⟩
  ·obtain⟨j,u',h5,h6,h7⟩:=h4 p hp;exact⟨j+1,u',by omega,by simpa using h6,h7⟩
 |.JZ f m::ps,ids,s,x,us,hr=>by
  simp only[bf,List.map_cons,ax]at hr;obtain⟨u,jU,rfl,h1,h2⟩:=hr;obtain⟨h3,h4⟩:=iu ps (ids.drop m) (s+1) x jU h2;refine⟨by simp[h3],fun p hp=>?_⟩;simp only[bf]at hp;rcases abd.1 hp with rfl|hp
  ·exact⟨0,u,rfl,rfl,h1⟩
  ·obtain⟨j,u',h5,h6,h7⟩:=h4 p hp;exact⟨j+1,u',by omega,by simpa using h6,h7⟩
 |.agg m::ps,ids,s,x,us,hr=>by
  simp only[bf,List.map_cons,ax]at hr;obtain⟨u,jU,rfl,h1,h2⟩:=hr;obtain⟨h3,h4⟩:=iu ps (ids.drop m) (s+1) x jU h2;refine⟨by simp[h3],fun p hp=>?_⟩;simp only[bf]at hp;rcases abd.1 hp with rfl|hp
  ·exact⟨0,u,rfl,rfl,h1⟩
  ·obtain⟨j,u',h5,h6,h7⟩:=h4 p hp;exact⟨j+1,u',by omega,by simpa using h6,h7⟩
section
variable {An:FuncId→Nat→Option Shape}
theorem DZ(V:Env P Eqs Sg F)(hm:P.follows .mixedOrders=true){f:FuncId}{g:aX}{fn:Func}{y:g.B}{b:Frame}{cs:List Frame}{wz:Act→World→Prop} (u6:∀st Z ψ a w,sY P g fn st=some y→Ok Z0 w0 O ψ0 Z ψ st.heap.get w→dn Z ψ st.heap.get w fn.ntmps (look st.tmps) a→wz a w) :
  ∀(n:Nat) (sh:Shape) (c:Code) (k:List Item) (x:sh.T) (Z:Nat→Prop) (ψ:Nat→Value) (a:Act) (w:World),oI P Eqs Sg An F f g fn n sh (.inLoop c::k) x=some y → Ok Z0 w0 O ψ0 Z ψ (aA sh x).heap.get w→dn Z ψ (aA sh x).heap.get w fn.ntmps (look (aA sh x).tmps) a→Reach P b cs wz (lone (b.at a (.code c::.inLoop c::k)) cs w)
 |0,sh,c,k,x,Z,ψ,a,w,hx,_,_=>by simp only[oI]at hx;cases hx
 |n+1,sh,c,k,x,Z,ψ,a,w,hx,ko,t=>by simp only[oI]at hx;exact tj V hm (fun sh c k x Z ψ a w h1 h2 h3=>DZ V hm u6 n sh c k x Z ψ a w h1 h2 h3) u6 fuel _ _ Z ψ a w hx ko t
theorem IK{n i:Nat}(h:i∈aY n):∃j,j<n∧i=1000+20*j:=by unfold aY at h;obtain⟨j,h1,rfl⟩:=aca.1 h;exact⟨j,adb.1 h1,rfl⟩
theorem Uf{α:Type}{l:List α}{a:α}(h:a∈l):(a,a)∈l.zip l:=by
 induction l with
 |nil=>cases h
 |cons b r ih =>
  simp only[List.zip_cons_cons];rcases abd.1 h with rfl|h
  ·exact abp
  ·exact aa1 _ (ih h)
theorem NB(V:Env P Eqs Sg F)(hm:P.follows .mixedOrders=true){f:FuncId}{g:aX}{n:Nat}{x:g.A}{y:g.B}(hx:M1 P Eqs Sg An F f g n x=some y):GZ P f g x y:=by
 intro Z ψ0 w lK hg hr;unfold M1 at hx
 split at hx
 ·cases hx
 rename_i fn c aai;have hf:P.funcs[f%1000]? = some fn∧fn.body=some c:=by
  unfold body at aai;obtain⟨fn',h1,h2⟩:=ac4.1 aai;obtain⟨c',h3,h4⟩:=ac5.1 h2
  cases h4
  exact⟨h1,h3⟩
 split at hx
 ·rename_i hle;simp only[Bool.and_eq_true,decide_eq_true_eq]at hle;obtain⟨hlen,abA⟩:=iu g.ps (aY g.bs.length) 0 x.1 lK hr;intro cs
  let b:Frame:={ (default:Frame) with fn:=f%1000,kind:=.normal }
  let a0:Act:={ tmps:=lK.toArray++Array.replicate (fn.ntmps-lK.toArray.size) undef,defers:=[] }
  have abB:Frame.enter P (f%1000) lK.toArray .normal=b.at a0 [.code c]:=by simp[Frame.enter,Frame.at,hf.1,hf.2,b,a0]
  have ok0:Ok Z w (Own ψ0 (rp g x)) ψ0 Z ψ0 (entry g x).heap.get w :=⟨hg,fun _ h=>h,fun _ h=>.inl h,rfl,rfl,rfl,ack _,fun _ _ _=>rfl,fun _ _ _=>rfl⟩;have tr0:dn Z ψ0 (entry g x).heap.get w fn.ntmps (look (entry g x).tmps) a0:=by
   refine fZ (fun p hp=>?_) (by simp[a0];omega) rfl;obtain⟨j,u,h1,h2,h3⟩:=abA p hp;rw[h1];have hj:j<lK.length:=(aa2.1 h2).1;have:a0.tmps.getD (0+j) undef=u:=by rw[Nat.zero_add,Array.getD_eq_getD_getElem?];simp only[a0];rw[Array.getElem?_append_left (by simpa using hj)];simp[h2]
   rw[this];exact h3
  have u6:∀st Z1 pW a w1,sY P g fn st=some y→Ok Z w (Own ψ0 (rp g x)) ψ0 Z1 pW st.heap.get w1→dn Z1 pW st.heap.get w1 fn.ntmps (look st.tmps) a → a.defers=[]∧∃v,(results fn a.tmps).run P w1=.ok v w1∧∃v' Z' ψ',Ending.returned v=.returned v'∧(∀b,Z b→Z' b)∧(∀b,Z' b→Z b∨Own ψ0 (rp g x) b∨w.heap.size≤b)∧dF ψ0 (rp g x) w w1 ∧ Good Z' ψ' (kU g y).get w1 w.heap.size (Own ψ0 (rp g x))∧(∀i∈aY g.bs.length,ψ' i=ψ0 i)∧aD Z' ψ' (kU g y).get w1 (gq (bj g.rs (aY g.bs.length) 2000 3000 y.1)) v':=by
   intro st Z1 pW a w1 u6 k t;refine⟨t.defers,?_⟩;unfold sY at u6
   split at u6
   ·cases u6
   rename_i vs vX
   split at u6
   ·rename_i y1 y2 hd hb Ge
    cases u6
    simp only[Bool.and_eq_true]at Ge;obtain⟨KO,DI⟩:=Ge;obtain⟨us,v,h1,h2,h3⟩:=KQ (P:=P) k.fi t vX;have hl':(aY g.bs.length).length=g.bs.length:=by simp[aY]
    let L:List Be:=cY g.bs st.heap (aY g.bs.length) (aY g.bs.length) 2000 y2++db g.rs vs 3000 y1
    have eH:eI L=kU g (y1,y2):=by show eI (_++_)=_;rw[oR,kc _ _ _ _ _ _ hb hl',iC];rfl
    have eN:L.map (·.1)=sK g:=by show(_++_:List Be).map _=_;rw[List.map_append,iZ _ _ _ _ _ _ hb hl',gT];rfl
    have eS:L.filterMap (·.2.1)=dE g.bs st.heap (aY g.bs.length)++eX g.rs vs:=by show(_++_:List Be).filterMap _=_;rw[List.filterMap_append,lH _ _ _ _ _ _ hb hl',jM _ _ _ _ hd]
    have hn:cG (L.map (·.1))=true:=by rw[eN];exact DI
    have j0:=Cm (ψ:=pW) hn;have hz:∀b,Z1 b→sH Z1 pW st.heap.get (ig g.rs vs++ic g.bs st.heap (aY g.bs.length)) b:=fun b hb=>.inl hb;have G1:=(uu KO).2 st.heap;have g':Good (sH Z1 pW st.heap.get (ig g.rs vs++ic g.bs st.heap (aY g.bs.length))) (fY pW L) (eI L).get w1 w.heap.size (Own ψ0 (rp g x)):=by
     refine zx k.fi KO hn eS fun e he=>?_;rcases abw.1 he with he|he
     ·exact nH k.fi hz g.bs _ _ 2000 y2 hb (fun id b bR h1 h2=>.inr ⟨id,abg _ bR,h1,h2⟩) (fun s hs=>G1 s (abi _ hs)) (fun e he=>j0 e (abi _ he)) e he
     ·exact kT g.rs vs 3000 y1 hd (fun s hs=>G1 s (abg _ hs)) e he
    obtain⟨Bv,DK⟩:=kd _ _ _ hb;have SZ:=ux (ids2:=aY g.bs.length) (Z':=sH Z1 pW st.heap.get (ig g.rs vs++ic g.bs st.heap (aY g.bs.length))) (ψ':=fY pW L) (h':=(eI L).get) k.fi hz hb hl' (fun e he=>j0 e (abi _ he)) g.rs vs 3000 y1 us hd (fun id b bR h1 h2=>.inr ⟨id,abi _ bR,h1,h2⟩) (fun e he=>j0 e (abg _ he)) h2;refine⟨v,h1,v,sH Z1 pW st.heap.get (ig g.rs vs++ic g.bs st.heap (aY g.bs.length)),fY pW L,rfl,fun b hb=>.inl (k.g6 b hb),fun b hb=>?_,⟨k.os,k.tape,k.output,k.size,k.block⟩,by rw[←eH];exact g',fun i hi=>?_,?_⟩
    ·rcases Pf hb with h4|⟨id,h4,h5⟩
     ·exact k.fN b h4
     ·exact .inr (k.fi.live id b h4 h5).2.symm
    ·obtain⟨o,ho⟩:=lJ (hh:=st.heap) g.bs (aY g.bs.length) (aY g.bs.length) 2000 y2 Bv (i,i) (Uf hi);rw[jL hn (List.mem_append_left _ ho)];obtain⟨j,h4,h5⟩:=IK hi;exact k.fix i (by omega) (DK i hi)
    ·rw[←eH];have O5:us.length=(bj g.rs (aY g.bs.length) 2000 3000 y1).length:=SZ.length.symm;rw[h3]
     match hE:bj g.rs (aY g.bs.length) 2000 3000 y1,us,SZ,O5 with
     |[],[],SZ,_=>simp only[gq];simp only[aD];exact⟨#[],rfl,by simpa using SZ⟩
     |[e1],[u],SZ,_ =>
      simp only[ax]at SZ;obtain⟨u',jU,he,h4,_⟩:=SZ
      cases he
      simpa[gq] using h4
     |e1::e2::er,u1::u2::ur,SZ,_ =>simp only[gq,aD];exact⟨(u1::u2::ur).toArray,by simp,by simpa using SZ⟩
   ·cases u6
  have reach:=tj V hm (b:=b) (cs:=cs) (fun sh c k x Z ψ a w h1 h2 h3=>DZ V hm u6 n sh c k x Z ψ a w h1 h2 h3) u6 fuel _ _ Z ψ0 a0 w hx ok0 tr0;obtain⟨a',w',todo,⟨hd,v,xS,hR⟩,hs⟩:=reach;rw[←abB]at hs;exact⟨.returned v,w',_,hR,hs,rfl,rfl,hd,rfl,fn,hf.1,xS⟩
 ·cases hx
end
theorem KR(hX:∀f g u,Sg f=some g→g.x=some u→jD P (f%1000) u){G:(f:FuncId)→(g:aX)→Option (g.A→Option g.B)}{An:FuncId→Nat→Option Shape}(FY:∀t k,Eqs t=some k→nD P t k)(Re:∀f g,Sg f=some g→ke P (f%1000))(hm:P.follows .mixedOrders=true) (hG:∀f g u x y,Sg f=some g→G f g=some u→u x=some y→GZ P f g x y):∀(m:Nat) f g x y,Sg f=some g→Fn P Eqs Sg An G m f g x=some y→GZ P f g x y
 |0,f,g,x,y,hs,hx=>by
  simp only[Fn]at hx
  split at hx
  ·rename_i u hu;exact hG f g u x y hs hu hx
  ·cases hx
 |m+1,f,g,x,y,hs,hx=>by
  simp only[Fn]at hx
  split at hx
  ·rename_i u hu;exact hG f g u x y hs hu hx
  ·exact NB ⟨FY,fun f g x y h1 h2=>KR hX FY Re hm hG m f g x y h1 h2,hX,Re⟩ hm hx
end Go.Vs
namespace Go.Vs
abbrev FT:=(f:FuncId)→(g:aX)→g.A→Option g.B
variable {P:Program} {Eqs:TypeId→Option K} {Sg:FuncId→Option aX} {R:Type}
def w9(p:Nat→Prop):Prop:=∃m,∀m',m≤m'→p m'
theorem w9.now{p:Nat→Prop}(h:∀m,p m):w9 p:=⟨0,fun m _=>h m⟩
theorem w9.and{p q r:Nat→Prop}(h:w9 p)(k:w9 q)(hr:∀m,p m→q m→r m):w9 r:=by obtain⟨a,ha⟩:=h;obtain⟨b,hb⟩:=k;exact⟨max a b,fun m hm=>hr m (ha m (by omega)) (hb m (by omega))⟩
theorem w9.imp{p r:Nat→Prop}(h:w9 p)(hr:∀m,p m→r m):w9 r:=by obtain⟨a,ha⟩:=h;exact⟨a,fun m hm=>hr m (ha m hm)⟩
def To(A:Nat→FT)(L:FT):Prop:=∀f g x y,L f g x=some y→w9 fun m=>A m f g x=some y
def ToK{α:Type}(A:Nat→α→Option R)(L:α→Option R):Prop:=∀x y,L x=some y→w9 fun m=>A m x=some y
def ToJ(A:Nat→(sh:Shape)→List Item→sh.T→Option R)(L:(sh:Shape)→List Item→sh.T→Option R):Prop:=∀sh k x y,L sh k x=some y→w9 fun m=>A m sh k x=some y
theorem Ug(h:Heap)(id:Nat)(f:FuncId)(vs:List AV):(∀F F':FT,j9 Sg F h id f vs some=j9 Sg F' h id f vs some) ∨ ∃ff g x,(∀F F':FT,F ff g x=F' ff g x→j9 Sg F h id f vs some=j9 Sg F' h id f vs some)∧∀F:FT,F ff g x=none→j9 Sg F h id f vs some=none:=by
 unfold j9
 split
 ·exact .inl fun _ _=>rfl
 rename_i g hg
 split
 ·exact .inl fun _ _=>rfl
 split
 ·split
  ·split
   ·rename_i x b hx hb hp;refine .inr ⟨_,g,(x,b),fun F F' e=>by rw[e],fun F e=>by rw[e];rfl⟩
   ·exact .inl fun _ _=>rfl
  ·split
   ·rename_i x b hx hb hp;refine .inr ⟨_,g,(x,b),fun F F' e=>by rw[e],fun F e=>by rw[e];rfl⟩
   ·exact .inl fun _ _=>rfl
 ·exact .inl fun _ _=>rfl
theorem Ys{A:Nat→FT}{L:FT}(hA:To A L){h:Heap}{id:Nat}{f:FuncId}{vs:List AV}{e:bW}(he:j9 Sg L h id f vs some=some e):w9 fun m=>j9 Sg (A m) h id f vs some=some e:=by
 rcases Ug (Sg:=Sg) h id f vs with k|⟨ff,g,x,k1,k2⟩
 ·exact .now fun m=>(k _ _).trans he
 ·cases hy:L ff g x with
  |none=>rw[k2 L hy]at he;cases he
  |some y=>exact(hA _ _ _ _ hy).imp fun m hm=>(k1 (A m) L (hm.trans hy.symm)).trans he
theorem KS{A:Nat→FT}{L:FT}(hA:To A L){id:Nat}{h:Heap}{s:List (Nat×AV)}{o:Oper}{e:bW}(he:dw P Eqs Sg L id h s o some=some e):w9 fun m=>dw P Eqs Sg (A m) id h s o some=some e:=by
 obtain⟨dst,op,type,pos,after,guard⟩:=o
 cases op with
 |call c =>
  obtain⟨callee,args,argTypes⟩:=c
  cases callee with
  |value f =>
   simp only[dw]at he
   split at he
   ·rename_i f' cap hf;refine(Ys hA he).imp fun m hm=>?_;simp only[dw,hf];exact hm
   ·cases he
  |builtin bi=>cases bi<;>exact .now fun m=>he
  |invoke _ _=>exact .now fun m=>he
 |unOp u _ _=>cases u<;>exact .now fun m=>he
 |makeFunc fn _ _=>cases fn<;>exact .now fun m=>he
 |makeMap _ r=>cases r<;>exact .now fun m=>he
 |next _ b=>cases b<;>exact .now fun m=>he
 |_=>exact .now fun m=>he
theorem w9.all{p:Nat→Nat→Prop}:∀(n:Nat),(∀j,j<n→w9 (p j))→w9 fun m=>∀j,j<n→p j m
 |0,_=>.now fun m j hj=>absurd hj (Nat.not_lt_zero _)
 |n+1,h=>(w9.all n fun j hj=>h j (by omega)).and (h n (by omega)) fun m h1 h2 j hj=>by
  by_cases e:j=n
  ·subst e;exact h2
  ·exact h1 j (by omega)
theorem NC{h:Heap}{x:AV}{K:Nat→AV→Heap→Option R}{KL:AV→Heap→Option R}(hK:∀v h y,KL v h=some y→w9 fun m=>K m v h=some y){r:R}(he:mE h x KL=some r):w9 fun m=>mE h x (K m)=some r:=by
 unfold mE at he ⊢
 split at he
 ·rename_i id
  split at he
  ·rename_i kk vk p hg
   try simp only[hg]
   cases hp:p.2 with
   |nil =>simp only[hp,List.isEmpty_nil,cond_true]at he ⊢;exact hK _ _ _ he
   |cons c l =>simp only[hp,List.isEmpty_cons,cond_false]at he ⊢;have h1:=qn he;refine(w9.all _ fun j hj=>?_).imp fun m hm=>oW (by simp) hm;have h2:=h1 j hj;rw[List.getElem?_eq_getElem hj]at h2 ⊢;simp only[Option.bind_some]at h2 ⊢;exact hK _ _ _ h2
  ·cases he
 ·cases he
theorem Uh{h:Heap}{x:AV}{want:Bool}{K:Nat→AV→Option R}{KL:AV→Option R}(hK:∀v y,KL v=some y→w9 fun m=>K m v=some y){r:R}(he:xh h x want KL=some r):w9 fun m=>xh h x want (K m)=some r:=by
 unfold xh at he ⊢
 split at he
 ·exact hK _ _ he
 ·rename_i xs hv
  cases A7:xs.isEmpty with
  |true =>simp only[A7,cond_true]at he ⊢;have h1:=qn he;exact(w9.all _ fun j hj=>hK _ _ (h1 j hj)).imp fun m hm=>oW (by decide) hm
  |false =>simp only[A7,cond_false]at he ⊢;exact hK _ _ he
 ·cases he
theorem D0{A:Nat→FT}{L:FT}(hA:To A L){rid:Nat}{draw:Bool}{ops:Array Oper}{b:Array Nat}{K:Nat→St→Option R}{KL:St→Option R}(hK:ToK K KL) :
  ∀(l:List (Nat×Oper)) (st:St) (r:R),bM P Eqs Sg L rid draw ops b l st KL=some r→w9 fun m=>bM P Eqs Sg (A m) rid draw ops b l st (K m)=some r
 |[],st,r,he=>hK st r (by simpa only[bM] using he)
 |(i,o)::l,st,r,he=>by
  have ih:=D0 hA (rid:=rid) (draw:=draw) (ops:=ops) (b:=b) hK l;have run:∀st:St,(match (if draw then none else qY P (opId rid i) st o) with
    |some fM=>bM P Eqs Sg L rid draw ops b l fM KL
    |none=>match (if draw then none else xg o) with
    |some x=>mE st.heap (ρ st.tmps x) fun v h=>bM P Eqs Sg L rid draw ops b l (({ st with heap:=h }:St).put o.dst v) KL
    |none=>match (if draw then none else isNil P o) with
    |some (x,want)=>xh st.heap (ρ st.tmps x) want fun v=>bM P Eqs Sg L rid draw ops b l (st.put o.dst v) KL
    |none=>if draw then dw P Eqs Sg L (opId rid i) (iX (ahead rid (b.getD i 0) st.heap) (iQ ops b i st.tmps o)) st.tmps o fun e =>
     if(iL true rid ops b i (b.getD i 0) (iR (iQ ops b i st.tmps o) (ahead rid (b.getD i 0) st.heap) e)&&ns (iQ ops b i st.tmps o) e)=true then
      bM P Eqs Sg L rid draw ops b l ({ st with heap:=match iR (iQ ops b i st.tmps o) (ahead rid (b.getD i 0) st.heap) e with | .wr _ h=>h|e=>e.h st.heap }.put o.dst e.v) KL else none
     else dw P Eqs Sg L (opId rid i) st.heap st.tmps o fun e =>
     if iL false rid ops b i (2 ^ i-1) e then bM P Eqs Sg L rid draw ops b l ({ st with heap:=match e with | .wr _ h=>h|e=>e.h st.heap }.put o.dst e.v) KL else none)=some r →
    w9 fun m=>(match (if draw then none else qY P (opId rid i) st o) with
    |some fM=>bM P Eqs Sg (A m) rid draw ops b l fM (K m)
    |none=>match (if draw then none else xg o) with
    |some x=>mE st.heap (ρ st.tmps x) fun v h=>bM P Eqs Sg (A m) rid draw ops b l (({ st with heap:=h }:St).put o.dst v) (K m)
    |none=>match (if draw then none else isNil P o) with
    |some (x,want)=>xh st.heap (ρ st.tmps x) want fun v=>bM P Eqs Sg (A m) rid draw ops b l (st.put o.dst v) (K m)
    |none=>if draw then dw P Eqs Sg (A m) (opId rid i) (iX (ahead rid (b.getD i 0) st.heap) (iQ ops b i st.tmps o)) st.tmps o fun e =>
     if(iL true rid ops b i (b.getD i 0) (iR (iQ ops b i st.tmps o) (ahead rid (b.getD i 0) st.heap) e)&&ns (iQ ops b i st.tmps o) e)=true then
      bM P Eqs Sg (A m) rid draw ops b l ({ st with heap:=match iR (iQ ops b i st.tmps o) (ahead rid (b.getD i 0) st.heap) e with | .wr _ h=>h|e=>e.h st.heap }.put o.dst e.v) (K m) else none
     else dw P Eqs Sg (A m) (opId rid i) st.heap st.tmps o fun e =>
     if iL false rid ops b i (2 ^ i-1) e then bM P Eqs Sg (A m) rid draw ops b l ({ st with heap:=match e with | .wr _ h=>h|e=>e.h st.heap }.put o.dst e.v) (K m) else none)=some r:=by
   intro st h
   split at h
   ·rename_i fM qm
    try simp only[qm]
    exact ih _ r h
   rename_i qm
   split at h
   ·rename_i x G6
    try simp only[qm,G6]
    exact NC (fun v h y hy=>ih _ y hy) h
   rename_i G6
   split at h
   ·rename_i x want hnl
    try simp only[qm,G6,hnl]
    exact Uh (fun v y hy=>ih _ y hy) h
   rename_i hnl
   try simp only[qm,G6,hnl]
   cases draw with
   |true =>
    simp only[if_true]at h ⊢;rw[mW]at h;obtain⟨e,h1,h2⟩:=ac4.1 h;by_cases hc:(iL true rid ops b i (b.getD i 0) (iR (iQ ops b i st.tmps o) (ahead rid (b.getD i 0) st.heap) e)&&ns (iQ ops b i st.tmps o) e)=true
    ·rw[if_pos hc]at h2;refine(KS hA h1).and (ih _ r h2) fun m h3 h4=>?_;rw[mW,h3,Option.bind_some,if_pos hc];exact h4
    ·rw[if_neg hc]at h2;cases h2
   |false =>
    simp only[Bool.false_eq_true,if_false]at h ⊢;rw[mW]at h;obtain⟨e,h1,h2⟩:=ac4.1 h;by_cases hc:iL false rid ops b i (2 ^ i-1) e=true
    ·rw[if_pos hc]at h2;refine(KS hA h1).and (ih _ r h2) fun m h3 h4=>?_;rw[mW,h3,Option.bind_some,if_pos hc];exact h4
    ·rw[if_neg hc]at h2;cases h2
  simp only[bM]at he ⊢
  split at he
  ·rename_i hg
   try simp only[hg]
   exact run _ he
  ·rename_i j want hg
   try simp only[hg]
   split at he
   ·cases he
   ·rename_i d hd
    try simp only[hd]
    split at he
    ·rename_i t ht
     try simp only[ht]
     cases t<;>cases want<;>simp only[cond_true,cond_false,if_true,if_false,Bool.false_eq_true]at he ⊢<;>first|exact run _ he|exact ih _ r he
    ·rename_i ht
     try simp only[ht]
     exact ih _ r he
    ·cases he
theorem Gk{A:Nat→FT}{L:FT}(hA:To A L){n rid:Nat}{ops:Array Oper}{draw:Bool}{K:Nat→St→Option R}{KL:St→Option R}(hK:ToK K KL){st:St}{r:R} (he:jy P Eqs Sg L n rid ops draw st KL=some r):w9 fun m=>jy P Eqs Sg (A m) n rid ops draw st (K m)=some r:=by
 unfold jy at he ⊢;by_cases hc:((ops.all fun o=>jx n o)&&(!draw || (xf ops (if draw then Region.before ops else #[])&&(C6 ops (if draw then Region.before ops else #[])&&cG (ops.toList.filterMap (·.dst)))))&&decide (ops.size≤128))=true
 ·dsimp only at he ⊢
  rw[if_pos hc]at he;refine(D0 hA hK _ _ r he).imp fun m hm=>?_;rw[if_pos hc];exact hm
 ·dsimp only at he
  rw[if_neg hc]at he;cases he
theorem iE{A:Nat→FT}{L:FT}(hA:To A L){n:Nat}{ann:Nat→Option Shape}{J:Nat→(sh:Shape)→List Item→sh.T→Option R}{JL:(sh:Shape)→List Item→sh.T→Option R}(hJ:ToJ J JL){ret:St→Option R} :
  ∀(fu:Nat) (items:List Item) (st:St) (r:R),aH P Eqs Sg L n ann JL ret fu items st=some r→w9 fun m=>aH P Eqs Sg (A m) n ann (J m) ret fu items st=some r
 |0,items,st,r,he=>by cases items<;>simp only[aH]at he<;>cases he
 |fu+1,[],st,r,he=>.now fun m=>by simpa only[aH] using he
 |fu+1,it::Rt,st,r,he=>by
  have ih:=iE hA (n:=n) (ann:=ann) hJ (ret:=ret) fu
  cases it with
  |inBlock id=>simp only[aH]at he ⊢;exact ih _ _ _ he
  |inScope c=>simp only[aH]at he ⊢;exact ih _ _ _ he
  |inLoop c =>
   simp only[aH]at he ⊢
   split at he
   ·cases he
   ·rename_i sh hsh
    try simp only[hsh]
    split at he
    ·rename_i x hx
     try simp only[hx]
     exact hJ _ _ _ _ he
    ·cases he
  |code c =>
   cases c with
   |cond c x y =>
    simp only[aH]at he ⊢
    split at he
    ·rename_i t ht
     try simp only[ht]
     cases t<;>simp only[cond_true,cond_false]at he ⊢<;>exact ih _ _ _ he
    ·cases he
   |exit id =>
    simp only[aH]at he ⊢
    split at he
    ·rename_i k' hk
     try simp only[hk]
     exact ih _ _ _ he
    ·cases he
   |ret=>exact .now fun m=>by simpa only[aH] using he
   |region id ops draw =>simp only[aH]at he ⊢;exact Gk hA (K:=fun m fM=>aH P Eqs Sg (A m) n ann (J m) ret fu Rt fM) (fun st y h=>ih Rt st y h) he
   |skip=>simp only[aH]at he ⊢;exact ih _ _ _ he
   |label l=>simp only[aH]at he ⊢;exact ih _ _ _ he
   |seq x y=>simp only[aH]at he ⊢;exact ih _ _ _ he
   |block id c=>simp only[aH]at he ⊢;exact ih _ _ _ he
   |scope c=>simp only[aH]at he ⊢;exact ih _ _ _ he
   |loop c=>simp only[aH]at he ⊢;exact ih _ _ _ he
   |_=>simp only[aH]at he;cases he
  |_=>simp only[aH]at he;cases he
section
variable {An:FuncId→Nat→Option Shape} {G:(f:FuncId)→(g:aX)→Option (g.A→Option g.B)}
def FLe(F F':FT):Prop:=∀f g x y,F f g x=some y→F' f g x=some y
theorem FLe.to{F F':FT}(h:FLe F F'):To (fun _=>F') F:=fun f g x y hy=>.now fun _=>h f g x y hy
theorem w9.get{p:Prop}(h:w9 fun _=>p):p:=by obtain⟨m,hm⟩:=h;exact hm m (ack _)
theorem qo{F F':FT}(h:FLe F F'){f:FuncId}{g:aX}{fn:Func}:∀(n n':Nat) (sh:Shape) (k:List Item) (x:sh.T) (y:g.B),n≤n'→oI P Eqs Sg An F f g fn n sh k x=some y→oI P Eqs Sg An F' f g fn n' sh k x=some y
 |0,_,_,_,_,_,_,hx=>by simp only[oI]at hx;cases hx
 |n+1,0,_,_,_,_,hn,_=>by omega
 |n+1,n'+1,sh,k,x,y,hn,hx=>by
  cases k with
  |nil=>simp only[oI]at hx;cases hx
  |cons it k =>
   cases it with
   |inLoop c =>simp only[oI]at hx ⊢;exact(iE h.to (J:=fun _=>oI P Eqs Sg An F' f g fn n') (JL:=oI P Eqs Sg An F f g fn n) (fun sh k x y hy=>.now fun _=>qo h n n' sh k x y (by omega) hy) _ _ _ _ hx).get
   |_=>simp only[oI]at hx;cases hx
theorem Ru{F F':FT}(h:FLe F F'){f:FuncId}{g:aX}{n n':Nat}{x:g.A}{y:g.B}(hn:n≤n')(hx:M1 P Eqs Sg An F f g n x=some y):M1 P Eqs Sg An F' f g n' x=some y:=by
 unfold M1 at hx ⊢
 split at hx
 ·cases hx
 ·rename_i fn c hb
  try simp only[hb]
  split at hx
  ·rename_i hc;simp only[if_pos hc];exact(iE h.to (J:=fun _=>oI P Eqs Sg An F' f g fn n') (JL:=oI P Eqs Sg An F f g fn n) (fun sh k x y hy=>.now fun _=>qo h n n' sh k x y hn hy) _ _ _ _ hx).get
  ·cases hx
theorem Cw:∀m,FLe (Fn P Eqs Sg An G m) (Fn P Eqs Sg An G (m+1))
 |0,f,g,x,y,hx=>by
  simp only[Fn]at hx ⊢
  split at hx
  ·rename_i u hu;(try simp only[hu]);exact hx
  ·cases hx
 |m+1,f,g,x,y,hx=>by
  rw[Fn]at hx ⊢
  split at hx
  ·rename_i u hu;(try simp only[hu]);exact hx
  ·rename_i hu
   try simp only[hu]
   exact Ru (Cw m) (Nat.le_succ m) hx
theorem Cx{m m':Nat}(h:m≤m'):FLe (Fn P Eqs Sg An G m) (Fn P Eqs Sg An G m'):=by
 induction h with
 |refl=>exact fun _ _ _ _ h=>h
 |step _ ih=>exact fun f g x y hx=>Cw _ f g x y (ih f g x y hx)
variable (P Eqs Sg An G) in
open Classical in
noncomputable def Fix:FT:=fun f g x=>if h:∃m y,Fn P Eqs Sg An G m f g x=some y then some (Classical.choose (Classical.choose_spec h)) else none
theorem IL:To (Fn P Eqs Sg An G) (Fix P Eqs Sg An G):=fun f g x y hy=>by
 unfold Fix at hy
 split at hy
 ·rename_i h
  cases hy
  exact⟨Classical.choose h,fun m' hm=>Cx hm _ _ _ _ (Classical.choose_spec (Classical.choose_spec h))⟩
 ·cases hy
theorem Ui{m:Nat}{f:FuncId}{g:aX}{x:g.A}{y:g.B}(h:Fn P Eqs Sg An G m f g x=some y):Fix P Eqs Sg An G f g x=some y:=by
 have he:∃m y,Fn P Eqs Sg An G m f g x=some y:=⟨m,y,h⟩
 cases hy:Fix P Eqs Sg An G f g x with
 |none=>unfold Fix at hy;rw[dif_pos he]at hy;cases hy
 |some y' =>obtain⟨m1,h1⟩:=IL f g x y' hy;have h2:=h1 (max m m1) (by omega);have h3:=Cx (show m≤max m m1 by omega) f g x y h;rw[h2]at h3;exact h3
variable (P Eqs Sg An G) in
open Classical in
noncomputable def Lp(f:FuncId)(g:aX)(fn:Func)(sh:Shape)(k:List Item)(x:sh.T):Option g.B :=if h:∃m y,oI P Eqs Sg An (Fn P Eqs Sg An G m) f g fn m sh k x=some y then some (Classical.choose (Classical.choose_spec h)) else none
theorem Uj{f:FuncId}{g:aX}{fn:Func}:ToJ (fun m=>oI P Eqs Sg An (Fn P Eqs Sg An G m) f g fn m) (Lp P Eqs Sg An G f g fn):=fun sh k x y hy=>by
 unfold Lp at hy
 split at hy
 ·rename_i h
  cases hy
  exact⟨Classical.choose h,fun m' hm=>qo (Cx hm) _ _ _ _ _ _ hm (Classical.choose_spec (Classical.choose_spec h))⟩
 ·cases hy
theorem aeg{m:Nat}{f:FuncId}{g:aX}{fn:Func}{sh:Shape}{k:List Item}{x:sh.T}{y:g.B}(h:oI P Eqs Sg An (Fn P Eqs Sg An G m) f g fn m sh k x=some y):Lp P Eqs Sg An G f g fn sh k x=some y:=by
 have he:∃m y,oI P Eqs Sg An (Fn P Eqs Sg An G m) f g fn m sh k x=some y:=⟨m,y,h⟩
 cases hy:Lp P Eqs Sg An G f g fn sh k x with
 |none=>unfold Lp at hy;rw[dif_pos he]at hy;cases hy
 |some y' =>obtain⟨m1,h1⟩:=Uj sh k x y' hy;have h2:=h1 (max m m1) (by omega);have h3:=qo (Cx (show m≤max m m1 by omega)) m (max m m1) sh k x y (by omega) h;exact h2.symm.trans h3
theorem Pg{f:FuncId}{g:aX}{x:g.A}{y:g.B}{fn:Func}{c:Code}(hG:G f g=none)(hb:body P (f%1000)=some (fn,c))(hc:(decide (g.ps.length≤fn.ntmps)&&decide (g.bs.length≤8))=true) (h:aH P Eqs Sg (Fix P Eqs Sg An G) fn.ntmps (An f) (Lp P Eqs Sg An G f g fn) (sY P g fn) fuel [.code c] (entry g x)=some y):Fix P Eqs Sg An G f g x=some y:=by obtain⟨m,hm⟩:=iE (IL (P:=P) (Eqs:=Eqs) (Sg:=Sg) (An:=An) (G:=G)) (Uj (f:=f) (g:=g) (fn:=fn)) _ _ _ _ h;refine Ui (m:=m+1) ?_;simp only[Fn,hG];unfold M1;simp only[hb,if_pos hc];exact hm m (ack _)
theorem Hd{f:FuncId}{g:aX}{x:g.A}{y:g.B}{u:g.A→Option g.B}(hG:G f g=some u)(h:u x=some y):Fix P Eqs Sg An G f g x=some y:=by refine Ui (m:=0) ?_;simp only[Fn,hG];exact h
theorem Uk{f:FuncId}{g:aX}{fn:Func}{sh:Shape}{c:Code}{k:List Item}{x:sh.T}{y:g.B} (h:aH P Eqs Sg (Fix P Eqs Sg An G) fn.ntmps (An f) (Lp P Eqs Sg An G f g fn) (sY P g fn) fuel (.code c::.inLoop c::k) (aA sh x)=some y):Lp P Eqs Sg An G f g fn sh (.inLoop c::k) x=some y:=by obtain⟨m,hm⟩:=iE (IL (P:=P) (Eqs:=Eqs) (Sg:=Sg) (An:=An) (G:=G)) (Uj (f:=f) (g:=g) (fn:=fn)) _ _ _ _ h;refine aeg (m:=m+1) ?_;simp only[oI];refine(iE (L:=Fn P Eqs Sg An G m) (FLe.to (Cw m)) (J:=fun _=>oI P Eqs Sg An (Fn P Eqs Sg An G (m+1)) f g fn m) (JL:=oI P Eqs Sg An (Fn P Eqs Sg An G m) f g fn m) (fun sh k x y hy=>.now fun _=>qo (Cw m) m m sh k x y (ack _) hy) _ _ _ _ (hm m (ack _))).get
theorem Cz(hX:∀f g u,Sg f=some g→g.x=some u→jD P (f%1000) u)(FY:∀t k,Eqs t=some k→nD P t k)(Re:∀f g,Sg f=some g→ke P (f%1000))(hm:P.follows .mixedOrders=true) (hG:∀f g u x y,Sg f=some g→G f g=some u→u x=some y→GZ P f g x y) {f:FuncId} {g:aX} {x:g.A} {y:g.B} (hs:Sg f=some g) (h:Fix P Eqs Sg An G f g x=some y):GZ P f g x y:=by obtain⟨m,Yb⟩:=IL f g x y h;exact KR hX FY Re hm hG m f g x y hs (Yb m (ack _))
end
end Go.Vs
namespace Go.Vs
open Go.Proofs
abbrev ae:=((Int×Int)×Int)
abbrev ID:=(Int×Int)
abbrev ai:=(ID×((List ae)×(ByteArray×Int)))
abbrev an:=(ID×(ByteArray×Int))
abbrev ak:=((List ai)×(List an))
abbrev aE:=(ae×ae)
abbrev StateT:=(ak×(List aE))
abbrev ml:=(ID×ae)
abbrev aW:=(Int×(ID×(ID×(ID×(ml×(ml×(Bool×(ByteArray×Int))))))))
abbrev bg:=((List ai)×((List an)×((List aE)×Unit)))
abbrev lI{α:Type}(l:List α):Int:=((l.length:Nat):Int)
abbrev wI(n:Int):Int:=IntKind.wrap .i64 n
abbrev OI:ID:=(0,0)
abbrev OD:ae:=(OI,0)
abbrev OC:ml:=(OI,OD)
abbrev OB:ByteArray:=⟨#[]⟩
abbrev OS:StateT:=(([],[]),[])
abbrev OW:bg:=([],([],([],())))
abbrev k13:K:=(.pair .str (.int .u64))
abbrev iV:K:=(.pair (.int .i64) (.int .i64))
abbrev k68:K:=(.pair .str (.pair (.int .i64) .bool))
abbrev bA:K:=(.pair iV (.int .i64))
abbrev k7:K:=(.pair (.int .i64) (.pair (.int .i64) (.pair .bool (.int .u8))))
abbrev eR:K:=(.pair iV (.pair .str (.int .i64)))
abbrev S4:K:=(.pair iV bA)
abbrev dy:K:=(.pair bA bA)
abbrev dO:K:=(.pair iV (.pair (.sl bA) (.pair .str (.int .i64))))
abbrev dC:K:=(.pair (.sl dO) (.sl eR))
abbrev mr:K:=(.pair dC (.sl dy))
abbrev j4:K:=(.pair (.int .i64) (.pair iV (.pair iV (.pair iV (.pair S4 (.pair S4 (.pair .bool (.pair .str (.int .i64)))))))))
abbrev He:K:=(.one (.sl j4))
def ry(xs:List ai)(ys:List an):Bool:=decide (xs.length≤50000000)&&(decide (ys.length≤50000000)&&xs.all fun v=>decide (v.2.1.length≤50000000))
def IM(h:Heap)(id:Nat):List AV→Option (Bool×bW)
 |[.agg [.bV a,.bV b]]=>match fg h (.row 52 dO) (.bV a),fg h (.row 118 eR) (.bV b) with
  |some xs,some ys=>if a=b then none else some (ry xs ys,.new (.agg [.bV (id+128),.bV (id+129)]) [(id+128,.own (.row 52 dO) xs),(id+129,.own (.row 118 eR) ys)])
  |_,_=>none
 |_=>none
abbrev aec(a:List PK)(b:List RK):aX:={ ps:=a,bs:=[],rs:=b }
abbrev aee:K:=.int .i64
def KT:=aec [.val mr,.val j4] [.val mr,.val aee]
def Rv:=aec [.val mr,.val j4] [.val mr,.val aee]
def sw:=aec [.val dC,.val iV] [.val dO,.val .bool]
def BZ:=aec [.val iV] [.val .bool]
def wA:=aec [.val dC,.val bA] [.val iV,.val .bool]
def zQ:=aec [.val dC,.val iV] [.val eR,.val .bool]
def KU:=aec [.val dC,.val bA] [.val (.sl bA)]
def Gl:=aec [.val bA] [.val bA]
def tn:=aec [.val (.sl bA),.val bA] [.val aee]
def Rx:=aec [.val (.sl bA),.val bA] [.val bA,.val .bool]
def D1:=aec [.val dC,.val dC] [.val .bool]
def zR:=aec [.val .str] [.val .bool]
def B2:=aec [.val aee] [.val .bool]
def Ul:=aec [.val mr,.val He] [.val mr,.val aee]
def KV:=aec [.val dC] [.own (.row 50 (.sl bA))]
def KW:=aec [.val dC] [.val aee]
def KX:=aec [.val mr,.val He] [.val mr,.val aee]
def Gm:=aec [.val dC] [.agg [.own (.row 52 dO),.own (.row 118 eR)]]
def IN:=aec [.val dC] [.val aee]
def KY:=aec [.val He] [.val aee]
def ND:=aec [.val j4] [.val aee]
def Gn:=aec [.val mr,.val (.sl j4)] [.val mr,.val aee]
def Ry:=aec [.val j4] [.val aee]
def IP:=aec [.val dC,.val dO] [.val dC]
def rz:=aec [.val dC,.val iV,.val iV] [.val dC]
def Um:=aec [.val mr,.val j4] [.val mr,.val aee]
def Un:=aec [.val mr,.val j4] [.val mr,.val aee]
def Uo:=aec [.val mr,.val j4] [.val mr,.val aee]
def B3:=aec [.val mr,.val j4] [.val mr,.val aee]
def D2:=aec [.val mr,.val j4] [.val mr,.val aee]
def Rz:=aec [.val dC,.val bA] [.val bA,.val .bool]
def Gp:=aec [.val dC,.val iV] [.val aee]
def u7:=aec [.val dC] [.own (.row 3 aee)]
def IQ:=aec [.val (.sl bA),.val (.sl bA)] [.val .bool]
def KZ:=aec [.val He] [.val aee]
def IS:=aec [.val dC] [.own (.row 33 bA)]
def IT:=aec [.val dC] [.agg [.own (.row 52 dO),.own (.row 118 eR)]]
def K0:=aec [.val (.sl dy)] [.own (.row 54 dy)]
def NF:=aec [.val bA,.val bA] [.val aee]
def sB:=aec [.val dC] [.val aee]
def IU:=aec [.val dC] [.val aee]
def Up:=aec [.val j4] [.val j4,.val aee]
def D3:aX:={ ps:=[.ref,.val j4],bs:=[.box 155 [.own (.row 52 dO),.own (.row 118 eR),.val (.sl dy)]],rs:=[.val aee] }
def RA:=aec [.val j4] [.val j4]
def RB:=aec [.val S4] [.val .bool]
def IV:=aec [.val iV,.val iV] [.val aee]
def RC:=aec [.val mr,.val S4] [.val S4,.val aee]
def B4:=aec [.val dC,.val eR] [.val dC]
def B5:=aec [.val dC,.val S4,.val bA] [.val dC]
def B6:=aec [.val (.sl dy),.val dy] [.val (.sl dy)]
def RD:=aec [.val dC,.val bA] [.val bA]
def RE:=aec [.val dC,.val bA] [.val dC]
def K1:=aec [.val dC,.val bA,.val bA] [.val dC]
def rB:=aec [.val (.sl bA)] [.own (.row 33 bA)]
def Uq:=aec [.val dC,.val bA] [.val bA,.val .bool]
def RF:=aec [.val (.sl dO)] [.own (.row 52 dO)]
def RG:=aec [.val (.sl eR)] [.own (.row 118 eR)]
def B7:=aec [.val (.sl bA)] [.own (.row 33 bA)]
def B8:=aec [.val dC] [.val (.sl iV)]
def xT:=aec [.val (.sl iV)] [.val .bool]
def mG:=aec [.val dC] [.val .bool]
def IW:=aec [.val dC] [.val aee,.val aee,.val aee,.val aee]
def tp:=aec [.val iV] [.val .bool]
def Gq:=aec [.val S4] [.val .bool]
def zT:=aec [.val .str] [.val .bool]
def K2:=aec [.val aee] [.val .bool]
def K3:aX:={ ps:=[.ref,.val dO],bs:=[.box 155 [.own (.row 52 dO),.own (.row 118 eR),.val (.sl dy)]],rs:=[.val aee] }
def Ur:aX:={ ps:=[.ref,.val j4],bs:=[.box 155 [.own (.row 52 dO),.own (.row 118 eR),.val (.sl dy)]],rs:=[.val aee] }
def qp:aX:={ ps:=[.ref,.val j4],bs:=[.box 155 [.own (.row 52 dO),.own (.row 118 eR),.val (.sl dy)]],rs:=[.val aee] }
def D4:aX:={ ps:=[.ref,.val j4],bs:=[.box 155 [.own (.row 52 dO),.own (.row 118 eR),.val (.sl dy)]],rs:=[.val aee] }
def B9:aX:={ ps:=[.ref,.val j4],bs:=[.box 155 [.own (.row 52 dO),.own (.row 118 eR),.val (.sl dy)]],rs:=[.val aee] }
def tu:aX:={ ps:=[.ref,.val j4],bs:=[.box 155 [.own (.row 52 dO),.own (.row 118 eR),.val (.sl dy)]],rs:=[.val aee] }
def Us:aX:={ ps:=[.ref,.val j4],bs:=[.box 155 [.own (.row 52 dO),.own (.row 118 eR),.val (.sl dy)]],rs:=[.val aee] }
def Ut:=aec [.val bA] [.val .bool]
def K4:=aec [.val mr,.val bA] [.val bA]
def Gs:=aec [.val dC,.val iV,.val (.sl bA)] [.val dC]
def Bw:=aec [.val (.sl bA),.val bA,.val bA] [.own (.row 33 bA)]
def vx:=aec [.val (.sl dy),.val bA] [.val bA,.val .bool]
def Bx:=aec [.val (.sl bA),.val bA] [.own (.row 33 bA)]
def K5:=aec [.val (.sl bA),.val bA,.val bA] [.own (.row 33 bA)]
def K6:=aec [.val (.sl bA),.val bA] [.val bA,.val .bool]
def qq:=aec [.val dC,.val bA] [.val aee]
def K7:=aec [.val bA] [.val .bool]
def si:aX:={ ps:=[.ref,.val iV],bs:=[.box 155 [.own (.row 52 dO),.own (.row 118 eR),.val (.sl dy)]],rs:=[.val aee,.val .bool] }
def aaj:aX:={ ps:=[],bs:=[],rs:=[],x:=some (Tl 52 dO) }
def aak:aX:={ ps:=[],bs:=[],rs:=[],x:=some (XX 52 dO) }
def By:aX:={ ps:=[.ref,.val iV],bs:=[.box 155 [.own (.row 52 dO),.own (.row 118 eR),.val (.sl dy)]],rs:=[.val aee] }
def D5:=aec [.val iV] [.val bA,.val bA]
def K8:=aec [.val mr,.val S4] [.val S4,.val aee]
def D6:=aec [.val (.sl bA),.val bA,.val bA] [.own (.row 33 bA)]
def D7:=aec [.val dC] [.val .bool]
def oY:aX:={ ps:=[.ref,.val iV],bs:=[.box 155 [.own (.row 52 dO),.own (.row 118 eR),.val (.sl dy)]],rs:=[.val aee,.val .bool] }
def D8:aX:={ ps:=[.ref,.val bA,.val bA],bs:=[.box 155 [.own (.row 52 dO),.own (.row 118 eR),.val (.sl dy)]],rs:=[] }
def D9:aX:={ ps:=[.ref,.val bA],bs:=[.box 155 [.own (.row 52 dO),.own (.row 118 eR),.val (.sl dy)]],rs:=[.val bA] }
def nS:aX:={ ps:=[.ref,.val bA],bs:=[.box 155 [.own (.row 52 dO),.own (.row 118 eR),.val (.sl dy)]],rs:=[.fW 0 [(0,5,0)]] }
def Ea:=aec [.val (.sl bA),.val bA] [.own (.row 33 bA)]
def aal:aX:={ ps:=[],bs:=[],rs:=[],x:=some (XX 118 eR) }
def vz:=aec [.val (.sl bA),.val bA,.val bA] [.own (.row 33 bA)]
def qu:=aec [.val bA] [.val bA]
def tx:=aec [.val (.sl bA)] [.own (.row 33 bA)]
def K9:aX:={ ps:=[.ref,.val j4],bs:=[.box 155 [.own (.row 52 dO),.own (.row 118 eR),.val (.sl dy)]],rs:=[.fW 0 [(0,5,3),(1,4,2)],.fW 0 [(0,5,4),(1,4,3)]] }
def Hf:=aec [.val dO,.val iV] [.val aee]
def Eb:=aec [.val iV,.val iV] [.val aee]
def aam:aX:={ ps:=[],bs:=[],rs:=[],x:=some (Tl 118 eR) }
def vA:=aec [.val dC,.val iV] [.val dO,.val .bool]
def Bz:=aec [.val mr,.val bA] [.val bA]
def xU:=aec [.val (.sl bA),.val bA] [.val .bool]
def nT:=aec [.val (.sl bA),.val bA] [.val aee]
def qv:=aec [.val (.sl (.sl bA))] [.own (.row 33 bA)]
def La:=aec [.val dC] [.val aee]
def Hg:=aec [.val eR,.val iV] [.val aee]
def Lb:=aec [.val (.sl dy),.val dy] [.own (.row 54 dy)]
def Ec:=aec [.val (.sl bA),.val bA] [.val bA,.val .bool]
def Hh:=aec [.val bA,.val bA] [.val aee]
def qw:=aec [.val (.sl (.sl bA))] [.own (.row 33 bA)]
def xV:=aec [.val (.sl aee)] [.val aee]
def Ed:=aec [.val aee,.val aee] [.val aee]
def Lc:=aec [.val dO] [.val iV]
def vB:=aec [.val dC,.val bA] [.val iV,.val .bool]
def Ld:=aec [.val (.sl dy),.val bA] [.val bA,.val .bool]
def Le:=aec [.val dC] [.val aee,.val aee,.val aee,.val aee]
def Hi:=aec [.val dy,.val bA] [.val aee]
def aan:aX:={ ps:=[],bs:=[],rs:=[],x:=some (Tl 54 dy) }
def Ee:=aec [.val (.sl bA),.val bA,.val aee] [.val bA,.val .bool]
def aao:aX:={ ps:=[],bs:=[],rs:=[],x:=some (O3 33 bA) }
def Ef:=aec [.val aee] [.val .bool]
def Lf:aX:={ ps:=[.val dy,.ref],bs:=[.box 33 [.val aee,.val aee,.val aee]],rs:=[.val .bool] }
def Lg:=aec [.val dO] [.val .bool]
def BA:=aec [.val dC] [.own (.row 50 (.sl bA))]
def BB:=aec [.val dC] [.val aee]
def xW:=aec [.val dC] [.own (.row 33 bA)]
def aap:=aec [.val dC] [.own (.row 28 (.sl iV))]
def Hj:=aec [.val dC,.val bA] [.val bA,.val .bool]
def ji:=aec [.val dC] [.own (.row 3 aee)]
def BC:=aec [.val dC,.val bA] [.val bA,.val .bool]
def Lh:aX:={ ps:=[.own,.val aee,.val aee],bs:=[.own (.row 3 aee)],rs:=[] }
def tz:aX:={ ps:=[.own,.val aee],bs:=[.own (.row 3 aee)],rs:=[.val aee] }
def Li:=aec [.val (.sl bA),.val bA] [.val bA,.val .bool]
def kh:=aec [.val (.sl dO),.val iV,.JZ 207 0] [.val aee,.val .bool]
def ki:=aec [.val (.sl eR),.val iV,.JZ 214 0] [.val aee,.val .bool]
def lR:=aec [.val (.sl bA),.JZ 195 0] [.val bA]
def lS:=aec [.val (.sl dO),.JZ 109 0,.val iV] [.val dO,.val .bool]
def kj:=aec [.val (.sl dy),.val bA,.JZ 232 0] [.val aee,.val .bool]
def kl:aX:={ ps:=[.val (.sl dy),.JZ 245 1],bs:=[.box 33 [.val bA]],rs:=[.val aee] }
def lT:=aec [.val (.sl dO),.JZ 239 0] [.val aee]
def Lj:aX:={ ps:=[],bs:=[],rs:=[],x:=some IM }
def Uu:=aec [] []
abbrev k98:K:=(.pair He iV)
abbrev k99:K:=(.pair mr (.pair aee (.sl He)))
abbrev jk:=(StateT×(Int×((List (List aW))×Unit)))
abbrev Q40:=((List aW)×ID)
abbrev Q41:=(((List (List aW))×(Int×Unit))×(jk×Unit))
abbrev Q42:=((StateT×Unit)×(jk×Unit))
abbrev Q0:=((Bool×Unit)×Unit)
abbrev Q1:=((StateT×(Int×Unit))×Unit)
abbrev Q2:=((Int×Unit)×Unit)
abbrev Q3:=(((List aW)×Unit)×Unit)
abbrev Q4:=((StateT×Unit)×Unit)
abbrev Q5:=((ak×Unit)×Unit)
abbrev Q6:=(((List ae)×Unit)×Unit)
abbrev Q7:=((ai×(Bool×Unit))×Unit)
abbrev Q8:=(List aW)
abbrev Q9:=((Int×Unit)×(jk×Unit))
abbrev Yt:=((an×(Bool×Unit))×Unit)
abbrev IX:=((ae×Unit)×Unit)
abbrev NG:=((ae×(Bool×Unit))×Unit)
abbrev Uv:=((ID×(Bool×Unit))×Unit)
abbrev NH:=((Int×(Bool×Unit))×(bg×Unit))
abbrev Q15:=((StateT×(aW×Unit))×Unit)
abbrev Q16:=((StateT×((List aW)×Unit))×Unit)
abbrev Q17:=(((List (List aW))×Unit)×Unit)
abbrev Yu:=(((List aE)×Unit)×Unit)
abbrev Uw:=((Int×Unit)×(bg×Unit))
abbrev XL:=((ak×(ae×Unit))×Unit)
abbrev Yv:=(((List ae)×(ae×Unit))×Unit)
abbrev Q22:=((aW×Unit)×(bg×Unit))
abbrev Q23:=((StateT×Unit)×((List (List aW))×Unit))
abbrev Q24:=(((List aW)×(Int×Unit))×Unit)
abbrev Q25:=(((List (List ae))×Unit)×Unit)
abbrev Q26:=((((List ai)×((List an)×Unit))×Unit)×Unit)
abbrev Q27:=((ml×Unit)×Unit)
abbrev Q28:=((Int×(Int×Unit))×(jk×Unit))
abbrev Q29:=((StateT×((List (List aW))×Unit))×Unit)
abbrev Q30:=((ak×(ID×Unit))×Unit)
abbrev Q31:=(((Option ((Fin 1)×Nat))×Unit)×(bg×Unit))
abbrev Q32:=(Unit×(jk×Unit))
abbrev Q33:=((ae×(ae×Unit))×Unit)
abbrev Q34:=(((List ae)×(ae×(ae×Unit)))×Unit)
abbrev Q35:=((Int×Unit)×((List Int)×Unit))
abbrev Q36:=((StateT×(Int×Unit))×(jk×Unit))
abbrev Q37:=(((List Bool)×Unit)×((List (List aW))×Unit))
abbrev Q38:=((Bool×(Int×Unit))×(((StateT×Unit)×((aW×Unit)×(bg×(((List ai)×((List an)×Unit))×Unit))))×Unit))
abbrev Q39:=((Int×Unit)×((bg×((ae×Unit)×((ae×Unit)×((ae×Unit)×Unit))))×Unit))
def apY(_:Heap)(id:Nat):List AV→Option (Bool×bW)
 |[]=>some (true,.new (.ref (id+128) 0 0 0) [(id+128,.box 100 (enc k99 (p4 k99)))])
 |_=>none
def ajG(h:Heap)(_:Nat):List AV→Option (Bool×bW)
 |[.ref i 0 0 0]=>match C1 h i 100 with
  |some cs=>match dZ k99 cs with
   |some x=>some (true,.val (.int .i64 x.2.1))
   |none=>none
  |none=>none
 |_=>none
def an7(h:Heap)(id:Nat):List AV→Option (Bool×bW)
 |[.ref i 0 0 0]=>match C1 h i 100 with
  |some cs=>match dZ k99 cs with
   |some x=>some (true,.new (.ref (id+128) 0 0 0) [(id+128,.box 100 (enc k99 x))])
   |none=>none
  |none=>none
 |_=>none
def xX:=aec [.val mr,.val He] [.val .bool]
def Ll:=aec [] [.val .bool]
def nV:=aec [.val mr] [.val .bool]
def Eg:=aec [.val mr,.val j4] [.own (.row 37 j4)]
def Lm:=aec [.val He] [.val He]
def BD:=aec [.val mr,.val He] [.own (.row 37 j4),.val aee]
def BE:=aec [.val mr,.val (.sl j4)] [.val mr,.val aee]
def vC:=aec [.val iV,.val .bool,.val .str,.val aee] [.own (.row 37 j4)]
def Ln:=aec [.val dC,.val j4] [.own (.row 37 j4)]
def qx:=aec [.val dC,.val j4] [.own (.row 37 j4)]
def Lo:=aec [.val dC,.val j4] [.own (.row 37 j4)]
def Eh:=aec [.val dC,.val iV] [.val eR,.val .bool]
def Hk:=aec [.val dC,.val bA,.val bA] [.val S4]
def oZ:=aec [.val (.sl (.sl j4))] [.own (.row 37 j4)]
def Lq:=aec [.val eR] [.val iV]
def lU:=aec [.val (.sl eR),.JZ 138 0,.val iV] [.val eR,.val .bool]
def aas:aX:={ ps:=[],bs:=[],rs:=[],x:=some (O3 37 j4) }
def RH:=aec [] []
def RI:=aec [] []
def Ux:=aec [] []
def RJ:=aec [] []
def sgs:List (Nat×aX):=[(73,KT),(45,Rv),(79,sw),(87,BZ),(124,wA),(92,zQ),(192,KU),(121,Gl),(144,tn),(148,Rx),(55,D1),(91,zR),(90,B2),(63,Ul),(164,KV),(165,KW),(49,KX),(21,Gm),(72,IN),(69,KY),(104,ND),(103,Gn),(46,Ry),(80,IP),(81,rz),(82,Um),(83,Un),(84,Uo),(85,B3),(86,D2),(216,Rz),(217,Gp),(193,u7),(98,IQ),(66,KZ),(191,IS),(96,IT),(97,K0),(71,NF),(106,sB),(107,IU),(132,Up),(131,D3),(88,RA),(89,RB),(105,IV),(114,RC),(115,B4),(116,B5),(117,B6),(118,RD),(119,RE),(120,K1),(122,rB),(234,Uq),(127,RF),(128,RG),(110,B7),(133,B8),(134,xT),(135,mG),(136,IW),(159,tp),(160,Gq),(161,zT),(162,K2),(152,K3),(153,Ur),(154,qp),(155,D4),(156,B9),(157,tu),(158,Us),(123,Ut),(143,K4),(145,Gs),(146,Bw),(147,vx),(126,Bx),(149,K5),(248,K6),(163,qq),(190,K7),(175,si),(176,aaj),(177,aak),(178,By),(179,D5),(180,K8),(181,D6),(172,D7),(182,oY),(183,D8),(184,D9),(185,nS),(141,Ea),(186,aal),(187,vz),(188,qu),(169,tx),(189,K9),(207,Hf),(208,Eb),(211,aam),(74,vA),(212,Bz),(166,xU),(168,nT),(170,qv),(204,La),(214,Hg),(215,Lb),(140,Ec),(195,Hh),(196,qw),(218,xV),(219,Ed),(109,Lc),(139,vB),(230,Ld),(226,Le),(232,Hi),(233,aan),(167,Ee),(220,aao),(235,Ef),(245,Lf),(239,Lg),(240,BA),(241,BB),(249,xW),(251,aap),(255,Hj),(256,ji),(258,BC),(259,Lh),(260,tz),(261,Li),(208206,kh),(215213,ki),(196194,lR),(110108,lS),(233231,kj),(246244,kl),(240238,lT),(500096,Lj),(900025,Uu),(12,xX),(42,Ll),(43,nV),(44,Eg),(47,Lm),(48,BD),(53,BE),(75,vC),(76,Ln),(77,qx),(78,Lo),(111,Eh),(112,Hk),(113,oZ),(138,Lq),(139137,lU),(142,aas),(2514003,RH),(3537003,RI),(900022,Ux),(2769003,RJ)]
def Sg(f:FuncId):Option aX:=(sgs.find? (fun p=>p.1==f)).map (fun p=>p.2)
def eqs:List (Nat×K):=[(31,iV),(33,bA),(35,S4),(37,j4),(118,eR),(54,dy)]
def Eqs(t:TypeId):Option K:=(eqs.find? (fun p=>p.1==t)).map (fun p=>p.2)
def Ei:Shape:=⟨[(6,.int .i64)],[(.slot 2,20000,.box 41 [.val dC]),(.slot 3,20001,.box 31 [.val iV]),(.slot 4,20002,.box 52 [.val aee,.val aee,.own (.row 33 bA),.val .str,.val aee])],[],[]⟩
def Ej:Shape:=⟨[(6,.int .i64)],[(.slot 2,20000,.box 41 [.val dC]),(.slot 3,20001,.box 33 [.val bA]),(.slot 4,20002,.box 31 [.val iV])],[],[]⟩
def Ek:Shape:=⟨[(6,.int .i64)],[(.slot 2,20000,.box 41 [.val dC]),(.slot 3,20001,.box 31 [.val iV]),(.slot 4,20002,.box 118 [.val eR])],[],[]⟩
def El:Shape:=⟨[],[(.slot 2,20000,.box 41 [.val dC]),(.slot 3,20001,.box 33 [.val bA]),(.slot 6,20002,.box 33 [.val bA])],[(5,31000,(.row 33 bA))],[]⟩
def Em:Shape:=⟨[(0,.sl bA),(5,.int .i64)],[(.slot 3,20000,.box 33 [.val bA])],[],[]⟩
def En:Shape:=⟨[(5,.int .i64)],[(.slot 2,20000,.box 41 [.val dC]),(.slot 3,20001,.box 41 [.val dC])],[],[]⟩
def Eo:Shape:=⟨[(9,.int .i64)],[(.slot 2,20000,.box 41 [.val dC]),(.slot 3,20001,.box 41 [.val dC])],[],[]⟩
def Ep:Shape:=⟨[(0,.str),(3,.int .i64)],[],[],[]⟩
def zU:Shape:=⟨[(6,.int .i64)],[(.slot 1,20000,.box 41 [.val dC])],[(3,31000,(.row 50 (.sl bA))),(4,31001,(.row 33 bA)),(5,31002,(.row 33 bA))],[]⟩
def zX:Shape:=⟨[(4,.int .i64),(5,.int .i64)],[],[(3,31000,(.row 3 aee))],[]⟩
def Er:Shape:=⟨[(7,.int .i64)],[(.slot 2,20000,.box 44 [.val mr]),(.slot 3,20001,.box 27 [.val He]),(.slot 4,20002,.box 44 [.own (.row 52 dO),.own (.row 118 eR),.own (.row 54 dy)])],[],[]⟩
def Es:Shape:=⟨[(4,.int .i64)],[(.slot 1,20000,.box 41 [.val dC]),(.slot 2,20001,.box 41 [.own (.row 52 dO),.own (.row 118 eR)]),(.slot 3,20002,.box 41 [.own (.row 52 dO),.own (.row 118 eR)])],[],[]⟩
def Et:Shape:=⟨[(3,.int .i64)],[(.slot 1,20000,.box 27 [.val He])],[],[]⟩
def Eu:Shape:=⟨[(18,.sl j4),(19,.int .i64),(20,.int .i64)],[(.slot 4,20000,.box 44 [.own (.row 52 dO),.own (.row 118 eR),.own (.row 54 dy)]),(.slot 6,20001,.box 155 [.own (.row 52 dO),.own (.row 118 eR),.val (.sl dy)])],[],[]⟩
def wB:Shape:=⟨[(6,.bool),(7,.int .i64)],[(.slot 2,20000,.box 41 [.val dC]),(.slot 3,20001,.box 52 [.val dO]),(.slot 4,20002,.box 41 [.own (.row 52 dO),.own (.row 118 eR)]),(.slot 5,20003,.box 41 [.own (.row 52 dO),.val (.sl eR)])],[],[]⟩
def zY:Shape:=⟨[(8,.int .i64)],[(.slot 3,20000,.box 41 [.val dC]),(.slot 4,20001,.box 31 [.val iV]),(.slot 5,20002,.box 31 [.val iV]),(.slot 6,20003,.box 41 [.own (.row 52 dO),.own (.row 118 eR)]),(.slot 7,20004,.box 41 [.own (.row 52 dO),.own (.row 118 eR)])],[],[]⟩
def zZ:Shape:=⟨[(9,.int .i64)],[(.slot 3,20000,.box 41 [.val dC]),(.slot 5,20001,.box 31 [.val iV]),(.slot 6,20002,.box 41 [.own (.row 52 dO),.own (.row 118 eR)]),(.slot 7,20003,.box 41 [.own (.row 52 dO),.own (.row 118 eR)])],[],[]⟩
def nW:Shape:=⟨[(12,.sl dy),(13,.int .i64)],[(.slot 4,20000,.box 44 [.own (.row 52 dO),.own (.row 118 eR),.own (.row 54 dy)]),(.slot 8,20001,.box 33 [.val bA]),(.slot 9,20002,.box 33 [.val bA]),(.slot 10,20003,.box 33 [.val bA]),(.slot 11,20004,.box 41 [.val dC])],[],[]⟩
def tB:Shape:=⟨[(7,.bool),(8,.int .i64)],[(.slot 2,20000,.box 44 [.val mr]),(.slot 3,20001,.box 37 [.val j4]),(.slot 4,20002,.box 44 [.own (.row 52 dO),.own (.row 118 eR),.own (.row 54 dy)]),(.slot 6,20003,.box 41 [.own (.row 52 dO),.own (.row 118 eR)])],[],[]⟩
def tC:Shape:=⟨[(7,.bool),(9,.int .i64)],[(.slot 2,20000,.box 44 [.val mr]),(.slot 3,20001,.box 37 [.val j4]),(.slot 4,20002,.box 44 [.own (.row 52 dO),.own (.row 118 eR),.own (.row 54 dy)]),(.slot 6,20003,.box 41 [.own (.row 52 dO),.own (.row 118 eR)])],[],[]⟩
def Ev:Shape:=⟨[(5,.int .i64)],[(.slot 2,20000,.box 41 [.val dC]),(.slot 3,20001,.box 31 [.val iV])],[],[]⟩
def Ew:Shape:=⟨[(4,.int .i64)],[(.slot 1,20000,.box 41 [.val dC])],[(3,31000,(.row 3 aee))],[]⟩
def z5:Shape:=⟨[(5,.int .i64)],[(.slot 1,20000,.box 41 [.val dC])],[(3,31000,(.row 3 aee))],[]⟩
def tD:Shape:=⟨[(5,.int .i64),(6,.int .i64)],[(.slot 1,20000,.box 41 [.val dC])],[(3,31000,(.row 3 aee))],[]⟩
def Ex:Shape:=⟨[(0,.sl bA),(1,.sl bA),(5,.int .i64)],[],[],[]⟩
def Ey:Shape:=⟨[(17,.sl j4),(18,.int .i64),(19,.int .i64)],[],[],[]⟩
def Ez:Shape:=⟨[(4,.int .i64)],[(.slot 1,20000,.box 41 [.val dC])],[(3,31000,(.row 33 bA))],[]⟩
def EA:Shape:=⟨[(14,.int .i64),(15,.int .i64)],[(.slot 2,20000,.box 41 [.own (.row 52 dO),.own (.row 118 eR)]),(.slot 3,20001,.box 41 [.own (.row 52 dO),.own (.row 118 eR)])],[],[]⟩
def wC:Shape:=⟨[(6,.bool),(7,.int .i64)],[(.slot 2,20000,.box 41 [.val dC]),(.slot 3,20001,.box 118 [.val eR]),(.slot 4,20002,.box 41 [.own (.row 52 dO),.own (.row 118 eR)]),(.slot 5,20003,.box 41 [.val (.sl dO),.own (.row 118 eR)])],[],[]⟩
def mu:Shape:=⟨[(0,.sl dy),(8,.bool),(9,.int .i64)],[(.slot 3,20000,.box 54 [.val dy])],[(7,31000,(.row 54 dy))],[]⟩
def z6:Shape:=⟨[(0,.sl bA),(3,.int .i64),(4,.int .i64)],[],[],[]⟩
def EB:Shape:=⟨[(0,.sl bA),(3,.int .i64),(6,.int .i64)],[],[(5,31000,(.row 33 bA))],[]⟩
def EC:Shape:=⟨[(4,.int .i64)],[(.slot 1,20000,.box 41 [.val dC])],[(3,31000,(.row 31 iV))],[]⟩
def z7:Shape:=⟨[(5,.int .i64)],[(.slot 1,20000,.box 41 [.val dC])],[(3,31000,(.row 31 iV))],[]⟩
def z8:Shape:=⟨[(0,.sl iV),(3,.int .i64)],[],[],[]⟩
def wD:Shape:=⟨[(3,.int .i64)],[(.slot 1,20000,.box 41 [.val dC])],[],[]⟩
def Aa:Shape:=⟨[(3,.int .i64),(4,.sl bA),(6,.int .i64)],[(.slot 1,20000,.box 41 [.val dC])],[],[]⟩
def Ab:Shape:=⟨[(9,.int .i64)],[(.slot 1,20000,.box 41 [.val dC])],[],[]⟩
def wE:Shape:=⟨[(9,.int .i64),(10,.int .i64)],[(.slot 1,20000,.box 41 [.val dC])],[],[]⟩
def wF:Shape:=⟨[(6,.int .i64),(7,.int .i64)],[(.slot 1,20000,.box 41 [.val dC])],[],[]⟩
def Ac:Shape:=⟨[(0,.str)],[],[(6,31000,.pZ)],[]⟩
def nX:Shape:=⟨[(48,.int .i64),(49,.int .i64)],[(.slot 0,1000,.box 155 [.own (.row 52 dO),.own (.row 118 eR),.val (.sl dy)]),(.slot 5,20001,.box 44 [.val mr]),(.slot 7,20002,.box 33 [.val bA])],[(9,31000,(.row 33 bA)),(47,31001,(.row 35 S4))],[]⟩
def IY:Shape:=⟨[(5,.int .i64),(32,.int .i64),(33,.int .i64)],[(.slot 0,1000,.box 155 [.own (.row 52 dO),.own (.row 118 eR),.val (.sl dy)]),(.slot 7,20001,.box 33 [.val bA]),(.slot 8,20002,.box 33 [.val bA])],[(31,31000,(.row 33 bA))],[]⟩
def Ad:Shape:=⟨[(5,.int .i64),(47,.int .i64),(48,.int .i64)],[(.slot 0,1000,.box 155 [.own (.row 52 dO),.own (.row 118 eR),.val (.sl dy)])],[(46,31000,(.row 33 bA))],[]⟩
def pN:Shape:=⟨[(113,.int .i64)],[(.slot 0,1000,.box 155 [.own (.row 52 dO),.own (.row 118 eR),.val (.sl dy)]),(.slot 8,20001,.box 33 [.val bA]),(.slot 9,20002,.box 33 [.val bA]),(.slot 10,20003,.box 33 [.val bA])],[],[]⟩
def ED:Shape:=⟨[(5,.int .i64)],[(.slot 2,20000,.box 44 [.val mr]),(.slot 3,20001,.box 33 [.val bA]),(.slot 4,20002,.box 33 [.val bA])],[],[]⟩
def Ae:Shape:=⟨[(2,.sl bA),(8,.int .i64)],[(.slot 4,20000,.box 31 [.val iV]),(.slot 6,20001,.box 41 [.own (.row 52 dO),.own (.row 118 eR)]),(.slot 7,20002,.box 41 [.own (.row 52 dO),.own (.row 118 eR)])],[],[]⟩
def uB:Shape:=⟨[(0,.sl bA),(7,.int .i64),(9,.int .i64)],[(.slot 5,20000,.box 33 [.val bA])],[(8,31000,(.row 33 bA))],[]⟩
def xY:Shape:=⟨[(0,.sl dy),(6,.int .i64)],[(.slot 3,20000,.box 33 [.val bA]),(.slot 4,20001,.box 33 [.val bA])],[],[]⟩
def uC:Shape:=⟨[(0,.sl bA),(6,.int .i64)],[(.slot 3,20000,.box 33 [.val bA])],[(5,31000,(.row 33 bA))],[]⟩
def uD:Shape:=⟨[(5,.int .i64),(6,.int .i64)],[(.slot 2,20000,.box 41 [.val dC]),(.slot 3,20001,.box 33 [.val bA])],[],[]⟩
def rC:Shape:=⟨[(5,.int .i64),(6,.int .i64),(7,.int .i64)],[(.slot 2,20000,.box 41 [.val dC]),(.slot 3,20001,.box 33 [.val bA])],[],[]⟩
def CA:Shape:=⟨[(7,.int .i64)],[(.slot 0,1000,.box 155 [.own (.row 52 dO),.own (.row 118 eR),.val (.sl dy)]),(.slot 3,20001,.box 33 [.val bA]),(.slot 4,20002,.box 33 [.val bA]),(.slot 5,20003,.box 33 [.val bA])],[],[]⟩
def xZ:Shape:=⟨[(12,.int .i64),(13,.int .i64)],[(.slot 0,1000,.box 155 [.own (.row 52 dO),.own (.row 118 eR),.val (.sl dy)]),(.slot 3,20001,.box 33 [.val bA])],[],[]⟩
def ya:Shape:=⟨[(12,.int .i64),(13,.int .i64)],[(.slot 2,20000,.box 44 [.val mr]),(.slot 3,20001,.box 33 [.val bA]),(.slot 4,20002,.box 33 [.val bA])],[],[]⟩
def yc:Shape:=⟨[(0,.sl bA),(7,.int .i64),(8,.int .i64)],[(.slot 3,20000,.box 33 [.val bA])],[],[]⟩
def yd:Shape:=⟨[(0,.sl (.sl bA)),(3,.int .i64),(9,.sl (.sl bA)),(10,.int .i64),(11,.int .i64)],[],[],[]⟩
def yf:Shape:=⟨[(25,.sl (.sl bA)),(26,.int .i64),(27,.int .i64)],[],[(6,31000,(.row 33 bA))],[]⟩
def CB:Shape:=⟨[(3,.int .i64),(6,.sl aee),(7,.int .i64),(8,.int .i64)],[],[],[]⟩
def yg:Shape:=⟨[(9,.sl dO),(10,.int .i64),(11,.int .i64)],[(.slot 3,20000,.box 33 [.val bA]),(.slot 4,20001,.box 31 [.val iV])],[],[]⟩
def yh:Shape:=⟨[(8,.sl eR),(9,.int .i64),(10,.int .i64)],[],[(3,31000,(.row 33 bA))],[]⟩
def uE:Shape:=⟨[(18,.sl dO),(19,.int .i64),(20,.int .i64)],[],[(3,31000,(.row 3 aee)),(4,31001,(.map bA aee))],[]⟩
def yi:Shape:=⟨[(5,.int .i64),(18,.sl dO),(19,.int .i64),(20,.int .i64),(30,.sl bA),(31,.int .i64),(32,.int .i64)],[],[(3,31000,(.row 3 aee)),(4,31001,(.map bA aee))],[]⟩
def rD:Shape:=⟨[(4,.mp bA aee)],[],[(3,31000,(.row 3 aee)),(42,31001,(.iter bA aee))],[]⟩
def yj:Shape:=⟨[(61,.int .i64),(62,.int .i64)],[],[(3,31000,(.row 3 aee)),(13,31001,(.row 3 aee))],[]⟩
def yk:Shape:=⟨[(11,.sl dO),(12,.int .i64),(13,.int .i64)],[(.slot 3,20000,.box 33 [.val bA]),(.slot 4,20001,.box 33 [.val bA])],[],[]⟩
def uF:Shape:=⟨[(1,.int .i64)],[],[(0,1000,(.row 3 aee))],[]⟩
def jG:Shape:=⟨[(0,.sl dO),(8,.int .i64),(9,.int .i64),(10,.int .i64)],[(.slot 4,20000,.box 31 [.val iV])],[],[(2,207,[])]⟩
def jH:Shape:=⟨[(0,.sl eR),(8,.int .i64),(9,.int .i64),(10,.int .i64)],[(.slot 4,20000,.box 31 [.val iV])],[],[(2,214,[])]⟩
def kV:Shape:=⟨[(0,.sl bA),(6,.int .i64)],[(.slot 4,20000,.box 33 [.val bA]),(.slot 5,20001,.box 33 [.val bA])],[],[(1,195,[])]⟩
def nY:Shape:=⟨[(11,.sl dO),(12,.int .i64),(13,.int .i64)],[(.slot 5,20000,.box 31 [.val iV]),(.slot 6,20001,.box 52 [.val aee,.val aee,.own (.row 33 bA),.val .str,.val aee])],[],[(1,109,[])]⟩
def jI:Shape:=⟨[(0,.sl dy),(8,.int .i64),(9,.int .i64),(10,.int .i64)],[(.slot 4,20000,.box 33 [.val bA])],[],[(2,232,[])]⟩
def kW:Shape:=⟨[(0,.sl dy),(7,.int .i64),(8,.int .i64)],[(.cap 1 0,1000,.box 33 [.val bA])],[],[(1,245,[1000])]⟩
def kX:Shape:=⟨[(5,.int .i64),(8,.sl dO),(9,.int .i64),(10,.int .i64)],[],[],[(1,239,[])]⟩
def rE:Shape:=⟨[(4,.int .i64),(7,.bool),(8,.bool),(9,.int .i64)],[(.slot 1,20000,.box 41 [.val dC])],[],[]⟩
def rF:Shape:=⟨[(7,.bool),(8,.bool),(10,.int .i64)],[(.slot 1,20000,.box 41 [.val dC])],[],[]⟩
def yl:Shape:=⟨[(5,.bool),(13,.int .i64)],[(.slot 9,20000,.box 44 [.val mr]),(.slot 11,20001,.box 44 [.val mr])],[(7,31000,(.row 37 j4)),(12,31001,(.row 37 j4))],[]⟩
def ym:Shape:=⟨[(3,.int .i64)],[(.slot 1,20000,.box 44 [.val mr])],[],[]⟩
def yn:Shape:=⟨[(23,.sl j4),(24,.int .i64),(25,.int .i64)],[(.slot 2,20000,.box 44 [.val mr])],[(8,31000,(.row 37 j4))],[]⟩
def yp:Shape:=⟨[(18,.sl j4),(19,.int .i64),(20,.int .i64)],[(.slot 4,20000,.box 44 [.val mr]),(.slot 6,20001,.box 44 [.val mr])],[],[]⟩
def km:Shape:=⟨[(32,.sl bA),(33,.int .i64),(34,.int .i64)],[(.slot 3,20000,.box 37 [.val j4]),(.slot 5,20001,.box 52 [.val dO]),(.slot 7,20002,.box 118 [.val eR]),(.slot 9,20003,.box 37 [.val j4])],[],[]⟩
def uG:Shape:=⟨[(0,.sl (.sl j4)),(3,.int .i64),(9,.sl (.sl j4)),(10,.int .i64),(11,.int .i64)],[],[],[]⟩
def rG:Shape:=⟨[(25,.sl (.sl j4)),(26,.int .i64),(27,.int .i64)],[],[(6,31000,(.row 37 j4))],[]⟩
def n6:Shape:=⟨[(11,.sl eR),(12,.int .i64),(13,.int .i64)],[(.slot 5,20000,.box 31 [.val iV]),(.slot 6,20001,.box 118 [.val eR])],[],[(1,138,[])]⟩
def NI:Shape:=⟨[],[],[(12,0,(.row 37 j4))],[]⟩
def ans:List (Nat×List (Nat×Shape)):=[(106,[(12,rE),(17,rF)]),(79,[(2,Ei)]),(124,[(2,Ej)]),(92,[(2,Ek)]),(192,[(6,El)]),(144,[(2,Em)]),(55,[(4,En),(12,Eo)]),(91,[(2,Ep)]),(164,[(5,zU)]),(165,[(4,zX)]),(49,[(5,Er)]),(21,[(3,Es)]),(69,[(4,Et)]),(103,[(3,Eu)]),(80,[(4,wB)]),(81,[(3,zY),(8,zZ)]),(85,[(18,nW)]),(86,[(4,tB),(12,tC)]),(217,[(2,Ev)]),(193,[(3,Ew),(7,z5),(10,tD)]),(98,[(4,Ex)]),(66,[(4,Ey)]),(191,[(3,Ez)]),(96,[(3,EA)]),(115,[(4,wC)]),(117,[(7,mu)]),(122,[(3,z6),(9,EB)]),(133,[(3,EC),(7,z7)]),(134,[(2,z8)]),(135,[(2,wD),(9,Aa),(15,Ab),(18,wE)]),(136,[(3,wF)]),(161,[(2,Ac)]),(154,[(8,nX)]),(155,[(6,IY),(11,Ad)]),(157,[(19,pN)]),(143,[(2,ED)]),(145,[(3,Ae)]),(146,[(6,uB)]),(147,[(2,xY)]),(126,[(3,uC)]),(163,[(3,uD),(6,rC)]),(184,[(3,CA)]),(185,[(2,xZ)]),(212,[(2,ya)]),(168,[(2,yc)]),(196,[(3,yd),(11,yf)]),(218,[(3,CB)]),(139,[(2,yg)]),(249,[(3,yh)]),(256,[(4,uE),(8,yi),(14,rD),(21,yj)]),(258,[(2,yk)]),(260,[(1,uF)]),(208206,[(3,jG)]),(215213,[(3,jH)]),(196194,[(5,kV)]),(110108,[(2,nY)]),(233231,[(3,jI)]),(246244,[(2,kW)]),(240238,[(3,kX)]),(12,[(13,yl),(500021,NI)]),(43,[(2,ym)]),(48,[(6,yn)]),(53,[(3,yp)]),(77,[(5,km)]),(113,[(3,uG),(11,rG)]),(139137,[(2,n6)])]
def An(f:FuncId)(key:Nat):Option Shape:=(ans.find? (fun p=>p.1==f)).bind fun p=>(p.2.find? (fun q=>q.1==key)).map (fun q=>q.2)
abbrev JT(g:aX):=(sh:Shape)→List Item→sh.T→Option g.B
noncomputable def cp(f:FuncId)(g:aX)(fn:Func)(F:FT)(J:JT g)(x:g.A):Option g.B:=aH Tryz.prog Eqs Sg F fn.ntmps (An f) J (sY Tryz.prog g fn) fuel [.code (fn.body.getD .skip)] (entry g x)
noncomputable def fO(f j:Nat)(g:aX)(fn:Func)(sh:Shape)(F:FT)(J:JT g)(x:sh.T):Option g.B:=aH Tryz.prog Eqs Sg F fn.ntmps (An f) J (sY Tryz.prog g fn) fuel (round (aS Tryz.prog (f%1000) j)) (aA sh x)
end Go.Vs
namespace Go.Vs
open Go.Proofs
variable {G:(f:FuncId)→(g:aX)→Option (g.A→Option g.B)}
noncomputable abbrev FX(G:(f:FuncId)→(g:aX)→Option (g.A→Option g.B)):FT:=Fix Tryz.prog Eqs Sg An G
noncomputable abbrev LX(G:(f:FuncId)→(g:aX)→Option (g.A→Option g.B))(f:FuncId)(g:aX)(fn:Func):JT g:=Lp Tryz.prog Eqs Sg An G f g fn
abbrev HG(G:(f:FuncId)→(g:aX)→Option (g.A→Option g.B)):Prop:=∀f g,(f==240 || f==241)=false→G f g=none
theorem aB{f:FuncId}{g:aX}{fn:Func}{x:g.A}{y:g.B}{z:Option g.B}(hG:G f g=none)(e:cp f g fn (FX G) (LX G f g fn) x=z)(h:z=some y) (hb:body Tryz.prog (f%1000)=some (fn,fn.body.getD .skip):=by kernel_rfl) (hc:(decide (g.ps.length≤fn.ntmps)&&decide (g.bs.length≤8))=true:=by kernel_rfl):FX G f g x=some y:=Pg hG hb hc (e.trans h)
theorem aw{f j:Nat}{g:aX}{fn:Func}{sh:Shape}{x:sh.T}{y:g.B}{z:Option g.B}(e:fO f j g fn sh (FX G) (LX G f g fn) x=z)(h:z=some y) (hs:(match aS Tryz.prog (f%1000) j with | .inLoop _::_=>true|_=>false)=true:=by kernel_rfl):LX G f g fn sh (aS Tryz.prog (f%1000) j) x=some y:=by
 have h:=e.trans h;unfold fO at h;generalize aS Tryz.prog (f%1000) j=s at hs h ⊢
 split at hs
 ·exact Uk h
 ·cases hs
abbrev aaa:=(Int×Unit)
abbrev aac:=(((List ai)×((List an)×Unit))×(((List ai)×((List an)×Unit))×Unit))
abbrev aae:=(ae×Unit)
abbrev aah:=(Int×aaa)
abbrev aaq:=((ak×Unit)×Unit)
abbrev aar:=(ID×Unit)
abbrev aat:=((List ae)×Unit)
abbrev aau:=(aae×Unit)
abbrev aax:=(ak×Unit)
abbrev aay:=((List Int)×Unit)
abbrev aaz:=(StateT×Unit)
abbrev aaA:=(Unit×Unit)
abbrev aaB:=(bg×Unit)
abbrev aaC:=((List ae)×aaa)
abbrev aaD:=((List ae)×aah)
abbrev aaE:=(aW×Unit)
abbrev aaF:=(aar×Unit)
abbrev aaJ:=((List aW)×Unit)
abbrev aaV:=(aar×((Int×(Int×((List ae)×(ByteArray×aaa))))×Unit))
abbrev aaW:=((List ai)×aah)
abbrev aa0:=(aaq×Unit)
end Go.Vs
