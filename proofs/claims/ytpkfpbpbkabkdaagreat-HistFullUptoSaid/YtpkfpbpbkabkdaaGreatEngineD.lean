/- The value semantics is sound for whole functions; the signatures of the program. -/
import Derived.Test.YtpkfpbpbkabkdaaGreatEngineC
import Derived.Scope
import Derived.Test.YtpkfpbpbkabkdaaGreatProg
import Derived.KernelRfl
set_option linter.unusedSimpArgs false
set_option linter.unusedVariables false
namespace Go.Vs
variable {P:Program} {Eqs:TypeId→Option K} {Sg:FuncId→Option aK} {F:(f:FuncId)→(g:aK)→g.A→Option g.B} {R:Type}
variable {Z Z' Z0:Nat→Prop} {ψ ψ' ψ0:Nat→Value} {h h':Hp} {w w' w0:World} {B0:Nat} {O N:Nat→Prop}
def dX(st:St):(l:List (Nat×Nat×OK))→F8 (l.map (·.2.2))→List vI
 |[],_=>[]
 |(s,id,ok)::r,x=>(id,(nk (look st.tmps s)).head?,.own ok x.1)::dX st r x.2
theorem ti(st:St):∀(l:List (Nat×Nat×OK)) (x:F8 (l.map (·.2.2))),dd (dX st l x)=o5 l x
 |[],_=>rfl
 |(s,id,ok)::r,x=>by simp only[dX,o5];rw[←ti st r x.2];rfl
theorem rk(st:St):∀(l:List (Nat×Nat×OK)) (x:F8 (l.map (·.2.2))),(dX st l x).map (·.1)=l.map (·.2.1)
 |[],_=>rfl
 |(s,id,ok)::r,x=>by simp only[dX,List.map_cons];rw[rk st r x.2]
theorem vV(st:St):∀(l:List (Nat×Nat×OK)) (x:F8 (l.map (·.2.2))),(dX st l x).filterMap (·.2.1)=l.flatMap fun p=>nk (look st.tmps p.1)
 |[],_=>rfl
 |(s,id,ok)::r,x=>by
  simp only[dX,List.flatMap_cons]
  rw[dr,vV st r x.2]
  simp only[]
  rw[uD]
theorem pz{st:St}{s id:Nat}{ok:OK}{r:List (Nat×Nat×OK)}{x:F8 (((s,id,ok)::r).map (·.2.2))}(hd:l0 st ((s,id,ok)::r)=some x):dz st.heap ok (look st.tmps s)=some x.1∧l0 st r=some x.2:=by
 have e:l0 st ((s,id,ok)::r)=(match dz st.heap ok (look st.tmps s),l0 st r with
  |some x,some y=>some ((x,y):ok.T×F8 (r.map (·.2.2)))
  |_,_=>none):=rfl
 rw[e]at hd
 clear e
 generalize dz st.heap ok (look st.tmps s)=o1 at hd ⊢
 generalize l0 st r=o2 at hd ⊢
 cases o1 with
 |none=>cases hd
 |some x1 =>
  cases o2 with
  |none=>cases hd
  |some y1=>have:=Option.some.inj hd;subst this;exact⟨rfl,rfl⟩
theorem yy{hd:Hp}{st:St}:∀(l:List (Nat×Nat×OK)) (x:F8 (l.map (·.2.2))),l0 st l=some x→(∀s∈(l.flatMap fun p=>nk (look st.tmps p.1)),hd s=st.heap.get s) →
  ∀e∈dX st l x,s6 Z ψ hd w h' ψ' e
 |[],_,_,_,e,he=>by simp[dX]at he
 |(s,id,ok)::r,x,hx,hk,e,he=>by
  obtain⟨h1,h2⟩:=pz hx
  simp only[List.flatMap_cons]at hk
  simp only[dX]at he
  rcases List.mem_cons.1 he with rfl|he
  ·exact H6 h1 fun s hs=>hk s (List.mem_append_left _ hs)
  ·exact yy r x.2 h2 (fun s hs=>hk s (List.mem_append_right _ hs)) e he
theorem D5{st:St}{s:Nat}{k:K}{r:List (Nat×K)}{x:Dp (((s,k)::r).map (·.2))}(hd:oZ st ((s,k)::r)=some x):eW k st.heap (look st.tmps s)=some x.1∧oZ st r=some x.2:=by
 have e:oZ st ((s,k)::r)=(match eW k st.heap (look st.tmps s),oZ st r with
  |some x,some y=>some ((x,y):k.T×Dp (r.map (·.2)))
  |_,_=>none):=rfl
 rw[e]at hd
 clear e
 generalize eW k st.heap (look st.tmps s)=o1 at hd ⊢
 generalize oZ st r=o2 at hd ⊢
 cases o1 with
 |none=>cases hd
 |some x1 =>
  cases o2 with
  |none=>cases hd
  |some y1=>have:=Option.some.inj hd;subst this;exact⟨rfl,rfl⟩
theorem dO{T:List (Nat×AV)}{n:Nat}{a:Act}(eu:∀p∈T,ar Z ψ h w p.2 (a.tmps.getD p.1 undef))(hs:a.tmps.size=n)(hd:a.defers=[]):cw Z ψ h w n (look T) a:=by
 refine⟨fun d=>?_,hs,hd⟩
 induction T with
 |nil=>simp only[look,ar]
 |cons p r ih =>
  obtain⟨i,v⟩:=p
  simp only[look]
  split
  ·rename_i e;subst e;exact eu _ List.mem_cons_self
  ·exact ih fun p hp=>eu p (List.mem_cons_of_mem _ hp)
section
variable {st:St} {n:Nat} {a:Act}
theorem tj(g:Good Z ψ st.heap.get w B0 O)(t:cw Z ψ st.heap.get w n (look st.tmps) a)(hz:∀b,Z b→Z' b):∀(l:List (Nat×K)) (x:Dp (l.map (·.2))),oZ st l=some x →
  (∀id b,AV.bp id∈(l.flatMap fun p=>(look st.tmps p.1).cells)→st.heap.get id≠none→ob (ψ id)=some b→Z' b)→∀p∈o4 l x,ar Z' ψ' h' w p.2 (a.tmps.getD p.1 undef)
 |[],_,_,_,p,hp=>by simp[o4]at hp
 |(s,k)::r,x,hx,hf,p,hp=>by
  obtain⟨h1,h2⟩:=D5 hx
  simp only[List.flatMap_cons]at hf
  simp only[o4]at hp
  rcases List.mem_cons.1 hp with rfl|hp
  ·exact qh g hz (fun id b bw=>hf id b (List.mem_append_left _ bw)) h1 (t.rep s)
  ·exact tj g t hz r x.2 h2 (fun id b bw=>hf id b (List.mem_append_right _ bw)) p hp
theorem rl(t:cw Z ψ st.heap.get w n (look st.tmps) a):∀(l:List (Src×Nat×BK)) (ids:List Nat),Cc st l=some ids→(∀i∈ids,st.heap.get i≠none) →
  (∀p∈ids.zip (l.map (·.2.1)),h' p.2≠none→ψ' p.2=ψ p.1)→∀p∈iR l,ar Z' ψ' h' w p.2 (a.tmps.getD p.1 undef)
 |[],_,_,_,_,p,hp=>by simp[iR]at hp
 |(src,ly,b)::r,ids,hx,hi,ia,p,hp=>by
  simp only[Cc]at hx
  split at hx
  ·rename_i i is h1 h2
   cases hx
   simp only[List.map_cons,List.zip_cons_cons]at ia
   have ih:=rl t r is h2 (fun j hj=>hi j (List.mem_cons_of_mem _ hj)) (fun p hp=>ia p (List.mem_cons_of_mem _ hp)) p
   cases src with
   |slot s =>
    simp only[iR]at hp
    rcases List.mem_cons.1 hp with rfl|hp
    ·simp only[Qo]at h1
     obtain⟨sz,h3⟩:=nE h1
     have h4:=t.rep s
     rw[h3]at h4
     exact wL h4 (hi i List.mem_cons_self) (ia (i,ly) List.mem_cons_self)
    ·exact ih hp
   |cap s j=>exact ih (by simpa only[iR] using hp)
  ·cases hx
theorem D6{hh:Heap}{ids:List (Nat×Nat)}(hi:∀p∈ids,hh.get p.1≠none)(ia:∀p∈ids,h' p.2≠none→ψ' p.2=ψ p.1):∀(cap:List AV) (is Aq:List Nat) (vs:List Value),iP cap=some is →
  is.map (fun i=>(ids.find? (·.1==i)).map (·.2))=Aq.map some→ai Z ψ hh.get w cap vs→ai Z' ψ' h' w (Aq.map fun i=>.ref i 0 0 0) vs
 |[],is,Aq,vs,h1,h2,hr=>by
  simp only[iP]at h1
  cases h1
  cases Aq with
  |nil=>simpa only[List.map_nil,ai] using hr
  |cons c r=>simp at h2
 |v::cap,is,Aq,vs,h1,h2,hr=>by
  simp only[iP]at h1
  split at h1
  ·rename_i i is' h3 h4
   cases h1
   cases Aq with
   |nil=>simp at h2
   |cons c r =>
    simp only[List.map_cons,List.cons.injEq]at h2
    obtain⟨h5,h6⟩:=h2
    simp only[List.map_cons,ai]at hr ⊢
    obtain⟨u,us,rfl,h7,h8⟩:=hr
    obtain⟨sz,rfl⟩:=nE h3
    cases hf:ids.find? (·.1==i) with
    |none=>rw[hf]at h5;cases h5
    |some p =>
     rw[hf]at h5
     have hm:=List.mem_of_find?_eq_some hf
     have he:=List.find?_some hf
     simp only[Option.map_some,Option.some.injEq]at h5
     have Rr:p.1=i:=by simpa using he
     refine⟨u,us,rfl,wL h7 (by rw[←Rr];exact hi p hm) (fun hn=>?_),D6 hi ia cap is' r us h4 h6 h8⟩
     rw[←h5,←Rr];exact ia p hm (by rw[h5];exact hn)
  ·cases h1
theorem vW(t:cw Z ψ st.heap.get w n (look st.tmps) a){ids:List (Nat×Nat)}(hi:∀p∈ids,st.heap.get p.1≠none)(ia:∀p∈ids,h' p.2≠none→ψ' p.2=ψ p.1):∀(l:List (Nat×FuncId×List Nat)),HY st ids l=true →
  ∀p∈wF l,ar Z' ψ' h' w p.2 (a.tmps.getD p.1 undef)
 |[],_,p,hp=>by simp[wF]at hp
 |(s,f,Aq)::r,hx,p,hp=>by
  simp only[HY,Bool.and_eq_true]at hx
  simp only[wF,List.map_cons]at hp
  rcases List.mem_cons.1 hp with rfl|hp
  ·have h1:=hx.1
   split at h1
   ·rename_i f' cap hl
    simp only[Bool.and_eq_true,decide_eq_true_eq]at h1
    obtain⟨rfl,h2⟩:=h1
    split at h2
    ·rename_i is Y4
     have h4:=t.rep s
     rw[hl]at h4
     simp only[ar]at h4 ⊢
     obtain⟨vs,h5,h6⟩:=h4
     exact⟨vs,h5,D6 hi ia cap is Aq _ Y4 (of_decide_eq_true h2) h6⟩
    ·cases h2
   ·cases h1
  ·exact vW t hi ia r hx.2 p hp
theorem tk(t:cw Z ψ st.heap.get w n (look st.tmps) a):∀(l:List (Nat×Nat×OK)) (x:F8 (l.map (·.2.2))),l0 st l=some x→(∀e∈dX st l x,h' e.1≠none→ψ' e.1=iY ψ e.2.1) →
  ∀p∈(l.map fun p=>(p.1,AV.bp p.2.1)),ar Z' ψ' h' w p.2 (a.tmps.getD p.1 undef)
 |[],_,_,_,p,hp=>by simp at hp
 |(s,id,ok)::r,x,hx,ia,p,hp=>by
  obtain⟨h1,h2⟩:=pz hx
  simp only[dX]at ia
  simp only[List.map_cons]at hp
  rcases List.mem_cons.1 hp with rfl|hp
  ·exact Cm h1 (t.rep s) (ia _ List.mem_cons_self)
  ·exact tk t r x.2 h2 (fun e he=>ia e (List.mem_cons_of_mem _ he)) p hp
end
theorem tl{st:St}{m:Nat}:∀(l:List (Nat×Nat×OK)) (x:F8 (l.map (·.2.2))),mz st m l=true→∃o,(m,some m,o)∈dX st l x
 |[],_,h=>by cases h
 |(s,id,ok)::r,x,h=>by
  simp only[mz,Bool.or_eq_true,Bool.and_eq_true,beq_iff_eq]at h
  rcases h with⟨rfl,h⟩|h
  ·split at h
   ·rename_i i hl
    have hi:i=id:=by simpa using h
    subst hi
    exact⟨_,by simp only[dX,hl,nk,List.head?_cons];exact List.mem_cons_self⟩
   ·cases h
  ·obtain⟨o,ho⟩:=tl r x.2 h
   exact⟨o,List.mem_cons_of_mem _ ho⟩
theorem rm{st:St}{m:Nat}:∀(l:List (Nat×Nat×OK)) (x:F8 (l.map (·.2.2))),l0 st l=some x→mz st m l=true→st.heap.get m≠none
 |[],_,_,h=>by cases h
 |(s,id,ok)::r,x,hx,h=>by
  obtain⟨h1,h2⟩:=pz hx
  simp only[mz,Bool.or_eq_true,Bool.and_eq_true,beq_iff_eq]at h
  rcases h with⟨rfl,h⟩|h
  ·split at h
   ·rename_i i hl
    have hi:i=id:=by simpa using h
    subst hi
    rw[hl]at h1
    simp only[dz]at h1
    split at h1
    ·rename_i hg;rw[hg];simp
    ·cases h1
   ·cases h
  ·exact rm r x.2 h2 h
theorem Ib{jV:List AV}{hh:Heap}{b:Nat}(hb:oL Z ψ hh.get jV b):Z b∨Own ψ hh.get b:=hb.imp (fun h=>h) fun⟨i,_,h2,h3⟩=>⟨i,h2,h3⟩
theorem fm{sh:Shape}{st:St}{x:sh.T}{n:Nat}{a:Act}(hx:cm sh st=some x)(k:Ok Z0 w0 O ψ0 Z ψ st.heap.get w)(t:cw Z ψ st.heap.get w n (look st.tmps) a) :
  ∃Z' ψ',Ok Z0 w0 O ψ0 Z' ψ' (aj sh x).heap.get w∧cw Z' ψ' (aj sh x).heap.get w n (look (aj sh x).tmps) a:=by
 unfold cm at hx
 split at hx
 ·cases hx
 rename_i ids qO
 split at hx
 ·rename_i xv xb xr hv hb hr Az
  cases hx
  simp only[Bool.and_eq_true]at Az
  obtain⟨D7,yg,Y5,Y6⟩:=Az
  obtain⟨hlen,yi⟩:=iq _ _ _ hb
  have QB:(sh.boxes.map (·.2.1)).length=sh.bs.length:=by simp[Shape.bs]
  let L:List vI:=cc sh.bs st.heap ids (sh.boxes.map (·.2.1)) 9000 xb++dX st sh.rows xr
  have eH:dd L=(aj sh (xv,xb,xr)).heap:=by
   show dd (_++_)=_
   rw[lG,im _ _ _ _ _ _ hb QB,ti];rfl
  have eN:L.map (·.1)=qa sh:=by
   show(_++_:List vI).map _=_
   rw[List.map_append,fZ _ _ _ _ _ _ hb QB,rk];rfl
  have eS:L.filterMap (·.2.1)=Dt st sh ids:=by
   show(_++_:List vI).filterMap _=_
   rw[List.filterMap_append,jz _ _ _ _ _ _ hb QB,vV];rfl
  have hn:bP (L.map (·.1))=true:=by rw[eN];exact yg
  have ia:=wK (ψ:=ψ) hn
  have hz:∀b,Z b→oL Z ψ st.heap.get (wE st sh ids) b:=fun b hb=>.inl hb
  have FY:=(qn D7).2 st.heap
  have g':Good (oL Z ψ st.heap.get (wE st sh ids)) (dN ψ L) (dd L).get w w0.heap.size O:=by
   refine uE k.dx D7 hn eS fun e he=>?_
   rcases List.mem_append.1 he with he|he
   ·exact kK k.dx hz sh.bs ids _ 9000 xb hb (fun id b bw h1 h2=>.inr ⟨id,List.mem_append_right _ bw,h1,h2⟩) (fun s hs=>FY s (List.mem_append_left _ hs)) (fun e he=>ia e (List.mem_append_left _ he)) e he
   ·exact yy sh.rows xr hr (fun s hs=>FY s (List.mem_append_right _ hs)) e he
  have LB:∀p∈ids.zip (sh.boxes.map (·.2.1)),(dd L).get p.2≠none→dN ψ L p.2=ψ p.1:=fun p hp aU=>by
   obtain⟨o,ho⟩:=jA sh.bs ids (sh.boxes.map (·.2.1)) 9000 xb (hh:=st.heap) hlen p hp
   exact ia (p.2,some p.1,o) (List.mem_append_left _ ho) aU
  have ux:∀p∈ids.zip (sh.boxes.map (·.2.1)),st.heap.get p.1≠none:=fun p hp=>yi _ (List.of_mem_zip hp).1
  refine⟨oL Z ψ st.heap.get (wE st sh ids),dN ψ L,?_,?_⟩
  ·rw[←eH]
   refine⟨g',fun b hb=>.inl (k.eR b hb),fun b hb=>?_,k.os,k.tape,k.output,k.size,k.block,fun i hi aU=>?_⟩
   ·rcases Ib hb with h1|⟨id,h1,h2⟩
    ·exact k.dJ b h1
    ·exact .inr (k.dx.live id b h1 h2).2.symm
   ·obtain⟨o,ho⟩:=Option.ne_none_iff_exists'.1 aU
    obtain⟨s,hm⟩:=mC ho
    have iw:i∈qa sh:=by rw[←eN];exact List.mem_map.2 ⟨_,hm,rfl⟩
    have h1:=List.all_eq_true.1 Y5 i iw
    simp only[Bool.or_eq_true,decide_eq_true_eq]at h1
    rcases h1 with(h1|h1)|h1
    ·omega
    ·obtain⟨p,hp,he⟩:=List.any_eq_true.1 h1
     simp only[Bool.and_eq_true,beq_iff_eq]at he
     have h2:=LB p hp (by rw[he.2];exact aU)
     rw[he.1,he.2]at h2
     rw[h2]
     exact k.fix i hi (by have:=ux p hp;rwa [he.1]at this)
    ·obtain⟨o',ma⟩:=tl sh.rows xr h1
     have h2:dN ψ L i=ψ i:=ia (i,some i,o') (List.mem_append_right _ ma) aU
     rw[h2]
     exact k.fix i hi (rm sh.rows xr hr h1)
  ·rw[←eH]
   refine dO (fun p hp=>?_) t.size t.defers
   simp only[aj]at hp
   rcases List.mem_append.1 hp with hp|hp
   ·exact tj k.dx t hz sh.wm xv hv (fun id b bw h1 h2=>.inr ⟨id,List.mem_append_left _ bw,h1,h2⟩) p hp
   ·rcases List.mem_append.1 hp with hp|hp
    ·exact rl t sh.boxes ids qO yi LB p hp
    ·rcases List.mem_append.1 hp with hp|hp
     ·exact vW t ux LB sh.fns Y6 p hp
     ·exact tk t sh.rows xr hr (fun e he=>ia e (List.mem_append_right _ he)) p hp
 ·cases hx
end Go.Vs
namespace Go.Vs
variable {P:Program} {Eqs:TypeId→Option K} {Sg:FuncId→Option aK} {F:(f:FuncId)→(g:aK)→g.A→Option g.B} {R:Type}
variable {Z Z' Z0:Nat→Prop} {ψ ψ' ψ0:Nat→Value} {h h':Hp} {w w' w0:World} {B0:Nat} {O N:Nat→Prop}
def Reach(P:Program)(b:Frame)(cs:List Frame)(sd:Act→World→Prop)(m:Machine):Prop:=∃a' w' todo,sd a' w'∧Steps P m (lone { b.at a' todo with mode:=.returning } cs w')
theorem Reach.head{b:Frame}{cs:List Frame}{sd:Act→World→Prop}{m m':Machine}(h:step P m=.next m')(r:Reach P b cs sd m'):Reach P b cs sd m:=by
 obtain⟨a,w,todo,h1,h2⟩:=r
 exact⟨a,w,todo,h1,.head h h2⟩
theorem Reach.steps{b:Frame}{cs:List Frame}{sd:Act→World→Prop}{m m':Machine}(h:Steps P m m')(r:Reach P b cs sd m'):Reach P b cs sd m:=by
 obtain⟨a,w,todo,h1,h2⟩:=r
 exact⟨a,w,todo,h1,h.trans h2⟩
mutual
theorem D8{p:Nat→Prop}(hp:∀i,p i):∀v:AV,aA p v
 |.ref id _ _ _=>by simp only[aA];exact hp id
 |.bp id=>by simp only[aA];exact hp id
 |.fn _ cap=>by simp only[aA];exact qt hp cap
 |.agg cs=>by simp only[aA];exact qt hp cs
 |.lW vs=>by simp only[aA];exact qt hp vs
 |.no=>by simp only[aA]
 |.bool _=>by simp only[aA]
 |.int _ _=>by simp only[aA]
 |.str _=>by simp only[aA]
 |.kb=>by simp only[aA]
 |.eY=>by simp only[aA]
 |.fp _ _ _=>by simp only[aA]
 |.sl _ _ _=>by simp only[aA]
 |.mp _ _ _=>by simp only[aA]
theorem qt{p:Nat→Prop}(hp:∀i,p i):∀l:List AV,au p l
 |[]=>by simp only[au]
 |v::r=>by simp only[au];exact⟨D8 hp v,qt hp r⟩
end
theorem O7(s:Nat){n:Nat}{a:Act}{st:St}(k:Ok Z0 w0 O ψ0 Z ψ st.heap.get w)(t:cw Z ψ st.heap.get w n (look st.tmps) a):∃Z',Ok Z0 w0 O ψ0 Z' ψ (K7 s st).heap.get w∧cw Z' ψ (K7 s st).heap.get w n (look (K7 s st).tmps) a:=by
 unfold K7
 split
 ·rename_i m hl
  split
  ·rename_i ty kk xs hg
   have g:=k.dx
   obtain⟨vs,Ic,sY⟩:=g.row m (.row ty kk) xs hg
   have hs:∀i o,(st.heap.del m).get i=some o→st.heap.get i=some o:=fun i o hi=>by rw[sV]at hi;by_cases e:i=m<;>simp_all [dy]
   have gg:=g.freeze (Z':=fun b=>Z b∨ob (ψ m)=some b) (h':=(st.heap.del m).get) hs (fun b hb=>.inl hb) (fun b hb=>hb.imp (fun h=>h) (fun hb=>⟨m,by rw[hg];simp,by rw[sV,aS],hb⟩))
   have n1:Next Z ψ st.heap.get w w0.heap.size O (fun _=>False) (fun b=>Z b∨ob (ψ m)=some b) ψ (st.heap.del m).get w:=⟨fun b hb=>.inl hb,fun b hb=>hb.imp (fun h=>h) (fun hb=>.inl ⟨m,by rw[hg];simp,hb⟩),cG.refl _ _ _,fun i hi=>by
    obtain⟨o,ho⟩:=Option.ne_none_iff_exists'.1 hi
    exact .inl ⟨by rw[hs i o ho];simp,rfl⟩,gg⟩
   refine⟨_,k.next (fun id h=>h.elim) n1,⟨fun d=>?_,t.size,t.defers⟩⟩
   rw[qp _ rfl]
   have hr:=t.rep d
   by_cases hv:look st.tmps d=.bp m
   ·rw[hv]at hr ⊢
    simp only[ar]at hr
    have hu:=hr.2 (by rw[hg];simp)
    simp only[wj,if_true,ar]
    exact⟨by rw[hu];exact sN Ic sY (fun b hb=>.inl hb) (fun b hb=>.inr hb),by simp⟩
   ·have hf:wj m (.sl false kk xs) (look st.tmps d)=look st.tmps d:=by
     unfold wj
     split
     ·split
      ·rename_i i hi e;subst e;exact absurd hi hv
      ·rename_i i hi e;exact hi.symm
     ·rfl
    rw[hf]
    exact n1.rep g (D8 (fun _ h=>h) _) hr
  ·exact⟨Z,k,t⟩
 ·exact⟨Z,k,t⟩
theorem L3{n:Nat}{a:Act}(o:Option Shape){st:St}(k:Ok Z0 w0 O ψ0 Z ψ st.heap.get w)(t:cw Z ψ st.heap.get w n (look st.tmps) a):∃Z',Ok Z0 w0 O ψ0 Z' ψ (Du o st).heap.get w∧cw Z' ψ (Du o st).heap.get w n (look (Du o st).tmps) a:=by
 unfold Du
 split
 ·rename_i sh
  generalize sh.rows=l
  induction l generalizing Z st with
  |nil=>exact⟨Z,k,t⟩
  |cons p r ih =>
   obtain⟨Z1,k1,t1⟩:=O7 p.1 k t
   exact ih k1 t1
 ·exact⟨Z,k,t⟩
theorem pC(V:Env P Eqs Sg F)(hm:P.follows .mixedOrders=true){n:Nat}{ann:Nat→Option Shape}{J:(sh:Shape)→List Item→sh.T→Option R}{ret:St→Option R}{r:R}{b:Frame}{cs:List Frame}{sd:Act→World→Prop}
  (hJ:∀sh c k x Z ψ a w,J sh (.inLoop c::k) x=some r→Ok Z0 w0 O ψ0 Z ψ (aj sh x).heap.get w→cw Z ψ (aj sh x).heap.get w n (look (aj sh x).tmps) a→Reach P b cs sd (lone (b.at a (.code c::.inLoop c::k)) cs w))
  (qP:∀st Z ψ a w,ret st=some r→Ok Z0 w0 O ψ0 Z ψ st.heap.get w→cw Z ψ st.heap.get w n (look st.tmps) a→sd a w) :
  ∀(fu:Nat) (items:List Item) (st:St) (Z:Nat→Prop) (ψ:Nat→Value) (a:Act) (w:World),av P Eqs Sg F n ann J ret fu items st=some r→Ok Z0 w0 O ψ0 Z ψ st.heap.get w→cw Z ψ st.heap.get w n (look st.tmps) a →
   Reach P b cs sd (lone (b.at a items) cs w)
 |0,items,st,Z,ψ,a,w,hx,k,t=>by
  cases items<;>simp only[av]at hx<;>cases hx
 |fu+1,[],st,Z,ψ,a,w,hx,k,t=>⟨a,w,[],qP st Z ψ a w (by simpa only[av] using hx) k t,.one step_end⟩
 |fu+1,it::JV,st,Z,ψ,a,w,hx,k,t=>by
  have ih:=pC V hm (ann:=ann) hJ qP fu
  have loop:∀c,(match ann (qb c) with
    |none=>none
    |some sh=>match cm sh st with
     |some x=>J sh (.inLoop c::JV) x
     |none=>none)=some r→Reach P b cs sd (lone (b.at a (.code c::.inLoop c::JV)) cs w):=fun c hx=>by
   split at hx
   ·cases hx
   ·rename_i sh hsh
    split at hx
    ·rename_i x Yz
     obtain⟨Z',ψ',k',t'⟩:=fm Yz k t
     exact hJ sh c JV x Z' ψ' a w hx k' t'
    ·cases hx
  cases it with
  |inBlock id=>exact .head step_inBlock (ih JV st Z ψ a w (by simpa only[av] using hx) k t)
  |inScope c=>exact .head step_inScope (ih JV st Z ψ a w (by simpa only[av] using hx) k t)
  |inLoop c=>exact .head step_inLoop (loop c (by simp only[av]at hx;exact hx))
  |code c =>
   cases c with
   |skip=>exact .head step_skip (ih JV st Z ψ a w (by simpa only[av] using hx) k t)
   |label l=>exact .head step_label (ih JV st Z ψ a w (by simpa only[av] using hx) k t)
   |seq x y=>exact .head step_seq (ih _ st Z ψ a w (by simpa only[av] using hx) k t)
   |cond c x y =>
    simp only[av]at hx
    split at hx
    ·rename_i tt ht
     have h1:=pw t c
     rw[ht]at h1
     simp only[ar]at h1
     cases tt with
     |true=>exact .head (step_cond h1) (ih _ st Z ψ a w hx k t)
     |false=>exact .head (step_cond h1) (ih _ st Z ψ a w hx k t)
    ·cases hx
   |scope c=>exact .head step_scope (ih _ st Z ψ a w (by simpa only[av] using hx) k t)
   |block id c=>exact .head step_block (ih _ st Z ψ a w (by simpa only[av] using hx) k t)
   |loop c =>
    simp only[av]at hx
    cases fu with
    |zero=>simp only[av]at hx;cases hx
    |succ fu=>exact .head step_loop (loop c (by simp only[av]at hx;exact hx))
   |exit id =>
    simp only[av]at hx
    split at hx
    ·rename_i k' hk;exact .head (step_exit hk) (ih _ st Z ψ a w hx k t)
    ·cases hx
   |ret=>exact⟨a,w,_,qP st Z ψ a w (by simpa only[av] using hx) k t,.one step_ret⟩
   |region id ops draw =>
    simp only[av]at hx
    obtain⟨Zf,k,t⟩:=L3 (ann (500000+id)) k t
    have hw:=CC V hm (Q:=fun e a w=>e=.normal∧∃dI Z ψ,av P Eqs Sg F n ann J ret fu JV dI=some r∧Ok Z0 w0 O ψ0 Z ψ dI.heap.get w∧cw Z ψ dI.heap.get w n (look dI.tmps) a) hx k t (fun dI Z ψ a w h1 h2 h3=>⟨rfl,dI,Z,ψ,h1,h2,h3⟩)
    obtain⟨e,a',w',⟨rfl,dI,Z',ψ',h1,h2,h3⟩,LA⟩:=hw b JV cs
    exact .steps LA (ih JV dI Z' ψ' a' w' h1 h2 h3)
   |_=>simp only[av]at hx;cases hx
  |_=>simp only[av]at hx;cases hx
theorem pG{hh:Heap}{n:Nat}{s:List (Nat×AV)}{a:Act}(g:Good Z ψ hh.get w B0 O)(t:cw Z ψ hh.get w n (look s) a):∀(l:List ResultVar) (acc:Array Value) (vs:List AV),vz P hh s l=some vs →
  ∃us,(l.foldlM (fun(bs:Array Value) r=>do let y ←(match r with | .tmp t=>pure (a.tmps.getD t undef) | .cell p ty=>do loadVar ty (←asAddr (a.tmps.getD p undef)):Sem Value);pure (bs.push y)) acc:Sem (Array Value)).run P w=.ok (acc++us.toArray) w∧ai Z ψ hh.get w vs us
 |[],acc,vs,hx=>by
  simp only[vz]at hx
  cases hx
  exact⟨[],by simp,by simp only[ai]⟩
 |.tmp d::l,acc,vs,hx=>by
  simp only[vz]at hx
  split at hx
  ·rename_i gb h1
   cases hx
   obtain⟨us,h2,h3⟩:=pG g t l (acc.push (a.tmps.getD d undef)) gb h1
   refine⟨a.tmps.getD d undef::us,?_,by simp only[ai];exact⟨_,_,rfl,t.rep d,h3⟩⟩
   simp only[List.foldlM_cons,Sem.run_bind,Sem.run_pure,Result.andThen_ok]
   rw[h2];simp
  ·cases hx
 |.cell d ty::l,acc,vs,hx=>by
  simp only[vz]at hx
  split at hx
  ·rename_i id sz off hd
   split at hx
   ·rename_i bt cs hg
    split at hx
    ·rename_i v gb hv h1
     cases hx
     have h4:=t.rep d
     rw[hd]at h4
     simp only[ar]at h4
     obtain⟨ad,h5,h6⟩:=h4
     obtain⟨gg,ws,e1,e2,e3,e4⟩:=g.box id bt cs hg
     have h7:=h6 (by rw[hg];simp)
     rw[e1]at h7
     simp only[Oy,Nat.zero_mul,Nat.zero_add]at h7
     subst h7
     obtain⟨V,h8,h9⟩:=iU (a:=⟨gg,off,none⟩) (e3.drop off) (fun j u hu=>by
      rw[bW];simp only[World.cell?,e2];rw[List.getElem?_drop]at hu;simpa using hu) hv
     have l8:(loadVar ty ⟨gg,off,none⟩).run P w=.ok V w:=by
      have:=h8
      simpa[Instr.loadAt,Instr.sureAddr] using this
     obtain⟨us,h2,h3⟩:=pG g t l (acc.push V) gb h1
     refine⟨V::us,?_,by simp only[ai];exact⟨_,_,rfl,h9,h3⟩⟩
     have wo:(asAddr (a.tmps.getD d undef)).run P w=.ok ⟨gg,off,none⟩ w:=by rw[h5];rfl
     simp only[List.foldlM_cons,Sem.run_bind,wo,Sem.run_pure,Result.andThen_ok,l8]
     rw[h2];simp
    ·cases hx
   ·cases hx
  ·cases hx
theorem D9{fn:Func}{hh:Heap}{n:Nat}{s:List (Nat×AV)}{a:Act}{vs:List AV}(g:Good Z ψ hh.get w B0 O)(t:cw Z ψ hh.get w n (look s) a)(hx:vz P hh s fn.results.toList=some vs) :
  ∃us v,(results fn a.tmps).run P w=.ok v w∧ai Z ψ hh.get w vs us∧v=(if us.length=1 then us.headD undef else .tuple us.toArray):=by
 obtain⟨us,h1,h2⟩:=pG (P:=P) g t fn.results.toList #[] vs hx
 refine⟨us,_,?_,h2,rfl⟩
 have h3:(fn.results.mapM fun r=>(match r with | .tmp t=>pure (a.tmps.getD t undef) | .cell p ty=>do loadVar ty (←asAddr (a.tmps.getD p undef)):Sem Value)).run P w=.ok us.toArray w:=by
  rw[Array.mapM_eq_foldlM,←Array.foldlM_toList]
  simpa using h1
 have h4:results fn a.tmps=(do
   let vs ←fn.results.mapM fun r=>(match r with | .tmp t=>pure (a.tmps.getD t undef) | .cell p ty=>do loadVar ty (←asAddr (a.tmps.getD p undef)):Sem Value)
   pure (if h:vs.size=1 then vs[0] else .tuple vs)):=rfl
 rw[h4,Sem.run_bind,h3,Result.andThen_ok,Sem.run_pure]
 congr 1
 by_cases h5:us.length=1
 ·obtain⟨u,rfl⟩:=List.length_eq_one_iff.1 h5
  simp
 ·rw[dif_neg (by simpa using h5),if_neg h5]
end Go.Vs
namespace Go.Vs
variable {P:Program} {Eqs:TypeId→Option K} {Sg:FuncId→Option aK} {F:(f:FuncId)→(g:aK)→g.A→Option g.B} {R:Type}
variable {Z Z' Z0:Nat→Prop} {ψ ψ' ψ0:Nat→Value} {h h':Hp} {w w' w0:World} {B0:Nat} {O N:Nat→Prop}
theorem fq:∀(ps:List PK) (ids:List Nat) (s:Nat) (x:Dp (jX ps)) (us:List Value),ai Z ψ h w ((aH ps ids s x).map (·.2)) us→us.length=ps.length∧∀p∈aH ps ids s x,∃j u,p.1=s+j∧us[j]? = some u∧ar Z ψ h w p.2 u
 |[],ids,s,x,us,hr=>by
  simp only[aH,List.map_nil,ai]at hr
  subst hr
  exact⟨rfl,fun p hp=>by simp[aH]at hp⟩
 |.val k::ps,ids,s,x,us,hr=>by
  simp only[aH,List.map_cons,ai]at hr
  obtain⟨u,hM,rfl,h1,h2⟩:=hr
  obtain⟨h3,h4⟩:=fq ps ids (s+1) x.2 hM h2
  refine⟨by simp[h3],fun p hp=>?_⟩
  simp only[aH]at hp
  rcases List.mem_cons.1 hp with rfl|hp
  ·exact⟨0,u,rfl,rfl,h1⟩
  ·obtain⟨j,u',h5,h6,h7⟩:=h4 p hp
   exact⟨j+1,u',by omega,by simpa using h6,h7⟩
 |.ref::ps,i::ids,s,x,us,hr=>by
  simp only[aH,List.map_cons,ai]at hr
  obtain⟨u,hM,rfl,h1,h2⟩:=hr
  obtain⟨h3,h4⟩:=fq ps ids (s+1) x hM h2
  refine⟨by simp[h3],fun p hp=>?_⟩
  simp only[aH]at hp
  rcases List.mem_cons.1 hp with rfl|hp
  ·exact⟨0,u,rfl,rfl,h1⟩
  ·obtain⟨j,u',h5,h6,h7⟩:=h4 p hp
   exact⟨j+1,u',by omega,by simpa using h6,h7⟩
 |.ref::ps,[],s,x,us,hr=>by
  simp only[aH,List.map_cons,ai]at hr
  obtain⟨u,hM,rfl,h1,h2⟩:=hr
  obtain⟨h3,h4⟩:=fq ps [] (s+1) x hM h2
  refine⟨by simp[h3],fun p hp=>?_⟩
  simp only[aH]at hp
  rcases List.mem_cons.1 hp with rfl|hp
  ·exact⟨0,u,rfl,rfl,h1⟩
  ·obtain⟨j,u',h5,h6,h7⟩:=h4 p hp
   exact⟨j+1,u',by omega,by simpa using h6,h7⟩
 |.own::ps,i::ids,s,x,us,hr=>by
  simp only[aH,List.map_cons,ai]at hr
  obtain⟨u,hM,rfl,h1,h2⟩:=hr
  obtain⟨h3,h4⟩:=fq ps ids (s+1) x hM h2
  refine⟨by simp[h3],fun p hp=>?_⟩
  simp only[aH]at hp
  rcases List.mem_cons.1 hp with rfl|hp
  ·exact⟨0,u,rfl,rfl,h1⟩
  ·obtain⟨j,u',h5,h6,h7⟩:=h4 p hp
   exact⟨j+1,u',by omega,by simpa using h6,h7⟩
 |.own::ps,[],s,x,us,hr=>by
  simp only[aH,List.map_cons,ai]at hr
  obtain⟨u,hM,rfl,h1,h2⟩:=hr
  obtain⟨h3,h4⟩:=fq ps [] (s+1) x hM h2
  refine⟨by simp[h3],fun p hp=>?_⟩
  simp only[aH]at hp
  rcases List.mem_cons.1 hp with rfl|hp
  ·exact⟨0,u,rfl,rfl,h1⟩
  ·obtain⟨j,u',h5,h6,h7⟩:=h4 p hp
   exact⟨j+1,u',by omega,by simpa using h6,h7⟩
 |.Df f m::ps,ids,s,x,us,hr=>by
  simp only[aH,List.map_cons,ai]at hr
  obtain⟨u,hM,rfl,h1,h2⟩:=hr
  obtain⟨h3,h4⟩:=fq ps (ids.drop m) (s+1) x hM h2
  refine⟨by simp[h3],fun p hp=>?_⟩
  simp only[aH]at hp
  rcases List.mem_cons.1 hp with rfl|hp
  ·exact⟨0,u,rfl,rfl,h1⟩
  ·obtain⟨j,u',h5,h6,h7⟩:=h4 p hp
   exact⟨j+1,u',by omega,by simpa using h6,h7⟩
 |.agg m::ps,ids,s,x,us,hr=>by
  simp only[aH,List.map_cons,ai]at hr
  obtain⟨u,hM,rfl,h1,h2⟩:=hr
  obtain⟨h3,h4⟩:=fq ps (ids.drop m) (s+1) x hM h2
  refine⟨by simp[h3],fun p hp=>?_⟩
  simp only[aH]at hp
  rcases List.mem_cons.1 hp with rfl|hp
  ·exact⟨0,u,rfl,rfl,h1⟩
  ·obtain⟨j,u',h5,h6,h7⟩:=h4 p hp
   exact⟨j+1,u',by omega,by simpa using h6,h7⟩
section
variable {An:FuncId→Nat→Option Shape}
theorem yz(V:Env P Eqs Sg F)(hm:P.follows .mixedOrders=true){f:FuncId}{g:aK}{fn:Func}{y:g.B}{b:Frame}{cs:List Frame}{sd:Act→World→Prop}
  (qP:∀st Z ψ a w,o6 P g fn st=some y→Ok Z0 w0 O ψ0 Z ψ st.heap.get w→cw Z ψ st.heap.get w fn.ntmps (look st.tmps) a→sd a w) :
  ∀(n:Nat) (sh:Shape) (c:Code) (k:List Item) (x:sh.T) (Z:Nat→Prop) (ψ:Nat→Value) (a:Act) (w:World),lz P Eqs Sg An F f g fn n sh (.inLoop c::k) x=some y →
   Ok Z0 w0 O ψ0 Z ψ (aj sh x).heap.get w→cw Z ψ (aj sh x).heap.get w fn.ntmps (look (aj sh x).tmps) a→Reach P b cs sd (lone (b.at a (.code c::.inLoop c::k)) cs w)
 |0,sh,c,k,x,Z,ψ,a,w,hx,_,_=>by simp only[lz]at hx;cases hx
 |n+1,sh,c,k,x,Z,ψ,a,w,hx,ko,t=>by
  simp only[lz]at hx
  exact pC V hm (fun sh c k x Z ψ a w h1 h2 h3=>yz V hm qP n sh c k x Z ψ a w h1 h2 h3) qP fuel _ _ Z ψ a w hx ko t
theorem CD{n i:Nat}(h:i∈aE n):∃j,j<n∧i=1000+20*j:=by
 unfold aE at h
 obtain⟨j,h1,rfl⟩:=List.mem_map.1 h
 exact⟨j,List.mem_range.1 h1,rfl⟩
theorem L4{α:Type}{l:List α}{a:α}(h:a∈l):(a,a)∈l.zip l:=by
 induction l with
 |nil=>cases h
 |cons b r ih =>
  simp only[List.zip_cons_cons]
  rcases List.mem_cons.1 h with rfl|h
  ·exact List.mem_cons_self
  ·exact List.mem_cons_of_mem _ (ih h)
theorem GN(V:Env P Eqs Sg F)(hm:P.follows .mixedOrders=true){f:FuncId}{g:aK}{n:Nat}{x:g.A}{y:g.B}(hx:F9 P Eqs Sg An F f g n x=some y):A8 P f g x y:=by
 intro Z ψ0 w jB hg hr
 unfold F9 at hx
 split at hx
 ·cases hx
 rename_i fn c QC
 have hf:P.funcs[f%1000]? = some fn∧fn.body=some c:=by
  unfold body at QC
  obtain⟨fn',h1,h2⟩:=Option.bind_eq_some_iff.1 QC
  obtain⟨c',h3,h4⟩:=Option.map_eq_some_iff.1 h2
  cases h4
  exact⟨h1,h3⟩
 split at hx
 ·rename_i hle
  simp only[Bool.and_eq_true,decide_eq_true_eq]at hle
  obtain⟨hlen,RU⟩:=fq g.ps (aE g.bs.length) 0 x.1 jB hr
  intro cs
  let b:Frame:={ (default:Frame) with fn:=f%1000,kind:=.normal }
  let a0:Act:={ tmps:=jB.toArray++Array.replicate (fn.ntmps-jB.toArray.size) undef,defers:=[] }
  have RV:Frame.enter P (f%1000) jB.toArray .normal=b.at a0 [.code c]:=by
   simp[Frame.enter,Frame.at,hf.1,hf.2,b,a0]
  have ok0:Ok Z w (Own ψ0 (nJ g x)) ψ0 Z ψ0 (entry g x).heap.get w :=
   ⟨hg,fun _ h=>h,fun _ h=>.inl h,rfl,rfl,rfl,Nat.le_refl _,fun _ _ _=>rfl,fun _ _ _=>rfl⟩
  have tr0:cw Z ψ0 (entry g x).heap.get w fn.ntmps (look (entry g x).tmps) a0:=by
   refine dO (fun p hp=>?_) (by simp[a0];omega) rfl
   obtain⟨j,u,h1,h2,h3⟩:=RU p hp
   rw[h1]
   have hj:j<jB.length:=(List.getElem?_eq_some_iff.1 h2).1
   have:a0.tmps.getD (0+j) undef=u:=by
    rw[Nat.zero_add,Array.getD_eq_getD_getElem?]
    simp only[a0]
    rw[Array.getElem?_append_left (by simpa using hj)]
    simp[h2]
   rw[this];exact h3
  have qP:∀st Z1 mn a w1,o6 P g fn st=some y→Ok Z w (Own ψ0 (nJ g x)) ψ0 Z1 mn st.heap.get w1→cw Z1 mn st.heap.get w1 fn.ntmps (look st.tmps) a →
    a.defers=[]∧∃v,(results fn a.tmps).run P w1=.ok v w1∧∃v' Z' ψ',Ending.returned v=.returned v'∧(∀b,Z b→Z' b)∧(∀b,Z' b→Z b∨Own ψ0 (nJ g x) b∨w.heap.size≤b)∧cG ψ0 (nJ g x) w w1 ∧
     Good Z' ψ' (je g y).get w1 w.heap.size (Own ψ0 (nJ g x))∧(∀i∈aE g.bs.length,ψ' i=ψ0 i)∧ar Z' ψ' (je g y).get w1 (dQ (aJ g.rs (aE g.bs.length) 2000 3000 y.1)) v':=by
   intro st Z1 mn a w1 qP k t
   refine⟨t.defers,?_⟩
   unfold o6 at qP
   split at qP
   ·cases qP
   rename_i vs qe
   split at qP
   ·rename_i y1 y2 hd hb Az
    cases qP
    simp only[Bool.and_eq_true]at Az
    obtain⟨D7,yg⟩:=Az
    obtain⟨us,v,h1,h2,h3⟩:=D9 (P:=P) k.dx t qe
    have QB:(aE g.bs.length).length=g.bs.length:=by simp[aE]
    let L:List vI:=cc g.bs st.heap (aE g.bs.length) (aE g.bs.length) 2000 y2++cj g.rs vs 3000 y1
    have eH:dd L=je g (y1,y2):=by
     show dd (_++_)=_
     rw[lG,im _ _ _ _ _ _ hb QB,fH];rfl
    have eN:L.map (·.1)=oQ g:=by
     show(_++_:List vI).map _=_
     rw[List.map_append,fZ _ _ _ _ _ _ hb QB,eJ];rfl
    have eS:L.filterMap (·.2.1)=cF g.bs st.heap (aE g.bs.length)++dp g.rs vs:=by
     show(_++_:List vI).filterMap _=_
     rw[List.filterMap_append,jz _ _ _ _ _ _ hb QB,gP _ _ _ _ hd]
    have hn:bP (L.map (·.1))=true:=by rw[eN];exact yg
    have ia:=wK (ψ:=mn) hn
    have hz:∀b,Z1 b→oL Z1 mn st.heap.get (fg g.rs vs++fe g.bs st.heap (aE g.bs.length)) b:=fun b hb=>.inl hb
    have FY:=(qn D7).2 st.heap
    have g':Good (oL Z1 mn st.heap.get (fg g.rs vs++fe g.bs st.heap (aE g.bs.length))) (dN mn L) (dd L).get w1 w.heap.size (Own ψ0 (nJ g x)):=by
     refine uE k.dx D7 hn eS fun e he=>?_
     rcases List.mem_append.1 he with he|he
     ·exact kK k.dx hz g.bs _ _ 2000 y2 hb (fun id b bw h1 h2=>.inr ⟨id,List.mem_append_right _ bw,h1,h2⟩) (fun s hs=>FY s (List.mem_append_left _ hs)) (fun e he=>ia e (List.mem_append_left _ he)) e he
     ·exact jc g.rs vs 3000 y1 hd (fun s hs=>FY s (List.mem_append_right _ hs)) e he
    obtain⟨Bl,yi⟩:=iq _ _ _ hb
    have L5:=qo (ids2:=aE g.bs.length) (Z':=oL Z1 mn st.heap.get (fg g.rs vs++fe g.bs st.heap (aE g.bs.length))) (ψ':=dN mn L) (h':=(dd L).get) k.dx hz hb QB (fun e he=>ia e (List.mem_append_left _ he)) g.rs vs 3000 y1 us hd
     (fun id b bw h1 h2=>.inr ⟨id,List.mem_append_left _ bw,h1,h2⟩) (fun e he=>ia e (List.mem_append_right _ he)) h2
    refine⟨v,h1,v,oL Z1 mn st.heap.get (fg g.rs vs++fe g.bs st.heap (aE g.bs.length)),dN mn L,rfl,fun b hb=>.inl (k.eR b hb),fun b hb=>?_,⟨k.os,k.tape,k.output,k.size,k.block⟩,by rw[←eH];exact g',fun i hi=>?_,?_⟩
    ·rcases Ib hb with h4|⟨id,h4,h5⟩
     ·exact k.dJ b h4
     ·exact .inr (k.dx.live id b h4 h5).2.symm
    ·obtain⟨o,ho⟩:=jA (hh:=st.heap) g.bs (aE g.bs.length) (aE g.bs.length) 2000 y2 Bl (i,i) (L4 hi)
     rw[gO hn (List.mem_append_left _ ho)]
     obtain⟨j,h4,h5⟩:=CD hi
     exact k.fix i (by omega) (yi i hi)
    ·rw[←eH]
     have Lc:us.length=(aJ g.rs (aE g.bs.length) 2000 3000 y1).length:=L5.length.symm
     rw[h3]
     match hE:aJ g.rs (aE g.bs.length) 2000 3000 y1,us,L5,Lc with
     |[],[],L5,_=>simp only[dQ];simp only[ar];exact⟨#[],rfl,by simpa using L5⟩
     |[e1],[u],L5,_ =>
      simp only[ai]at L5
      obtain⟨u',hM,he,h4,_⟩:=L5
      cases he
      simpa[dQ] using h4
     |e1::e2::er,u1::u2::ur,L5,_ =>
      simp only[dQ,ar]
      exact⟨(u1::u2::ur).toArray,by simp,by simpa using L5⟩
   ·cases qP
  have reach:=pC V hm (b:=b) (cs:=cs) (fun sh c k x Z ψ a w h1 h2 h3=>yz V hm qP n sh c k x Z ψ a w h1 h2 h3) qP fuel _ _ Z ψ0 a0 w hx ok0 tr0
  obtain⟨a',w',todo,⟨hd,v,wu,hR⟩,hs⟩:=reach
  rw[←RV]at hs
  exact⟨.returned v,w',_,hR,hs,rfl,rfl,hd,rfl,fn,hf.1,wu⟩
 ·cases hx
end
theorem Ea(hX:∀f g u,Sg f=some g→g.x=some u→fR P (f%1000) u){G:(f:FuncId)→(g:aK)→Option (g.A→Option g.B)}{An:FuncId→Nat→Option Shape}(Ag:∀t k,Eqs t=some k→kH P t k)(JF:∀f g,Sg f=some g→ir P (f%1000))(hm:P.follows .mixedOrders=true)
  (hG:∀f g u x y,Sg f=some g→G f g=some u→u x=some y→A8 P f g x y):∀(m:Nat) f g x y,Sg f=some g→Fn P Eqs Sg An G m f g x=some y→A8 P f g x y
 |0,f,g,x,y,hs,hx=>by
  simp only[Fn]at hx
  split at hx
  ·rename_i u hu;exact hG f g u x y hs hu hx
  ·cases hx
 |m+1,f,g,x,y,hs,hx=>by
  simp only[Fn]at hx
  split at hx
  ·rename_i u hu;exact hG f g u x y hs hu hx
  ·exact GN ⟨Ag,fun f g x y h1 h2=>Ea hX Ag JF hm hG m f g x y h1 h2,hX,JF⟩ hm hx
end Go.Vs
namespace Go.Vs
abbrev FT:=(f:FuncId)→(g:aK)→g.A→Option g.B
variable {P:Program} {Eqs:TypeId→Option K} {Sg:FuncId→Option aK} {R:Type}
def sD(p:Nat→Prop):Prop:=∃m,∀m',m≤m'→p m'
theorem sD.now{p:Nat→Prop}(h:∀m,p m):sD p:=⟨0,fun m _=>h m⟩
theorem sD.and{p q r:Nat→Prop}(h:sD p)(k:sD q)(hr:∀m,p m→q m→r m):sD r:=by
 obtain⟨a,ha⟩:=h
 obtain⟨b,hb⟩:=k
 exact⟨max a b,fun m hm=>hr m (ha m (by omega)) (hb m (by omega))⟩
theorem sD.imp{p r:Nat→Prop}(h:sD p)(hr:∀m,p m→r m):sD r:=by
 obtain⟨a,ha⟩:=h
 exact⟨a,fun m hm=>hr m (ha m hm)⟩
def To(A:Nat→FT)(L:FT):Prop:=∀f g x y,L f g x=some y→sD fun m=>A m f g x=some y
def ToK{α:Type}(A:Nat→α→Option R)(L:α→Option R):Prop:=∀x y,L x=some y→sD fun m=>A m x=some y
def ToJ(A:Nat→(sh:Shape)→List Item→sh.T→Option R)(L:(sh:Shape)→List Item→sh.T→Option R):Prop:=∀sh k x y,L sh k x=some y→sD fun m=>A m sh k x=some y
theorem L6(h:Heap)(id:Nat)(f:FuncId)(vs:List AV):(∀F F':FT,ig Sg F h id f vs some=ig Sg F' h id f vs some) ∨
  ∃ff g x,(∀F F':FT,F ff g x=F' ff g x→ig Sg F h id f vs some=ig Sg F' h id f vs some)∧∀F:FT,F ff g x=none→ig Sg F h id f vs some=none:=by
 unfold ig
 split
 ·exact .inl fun _ _=>rfl
 rename_i g hg
 split
 ·exact .inl fun _ _=>rfl
 split
 ·split
  ·split
   ·rename_i x b hx hb hp
    refine .inr ⟨_,g,(x,b),fun F F' e=>by rw[e],fun F e=>by rw[e];rfl⟩
   ·exact .inl fun _ _=>rfl
  ·split
   ·rename_i x b hx hb hp
    refine .inr ⟨_,g,(x,b),fun F F' e=>by rw[e],fun F e=>by rw[e];rfl⟩
   ·exact .inl fun _ _=>rfl
 ·exact .inl fun _ _=>rfl
theorem O8{A:Nat→FT}{L:FT}(hA:To A L){h:Heap}{id:Nat}{f:FuncId}{vs:List AV}{e:bm}(he:ig Sg L h id f vs some=some e):sD fun m=>ig Sg (A m) h id f vs some=some e:=by
 rcases L6 (Sg:=Sg) h id f vs with k|⟨ff,g,x,k1,k2⟩
 ·exact .now fun m=>(k _ _).trans he
 ·cases hy:L ff g x with
  |none=>rw[k2 L hy]at he;cases he
  |some y=>exact(hA _ _ _ _ hy).imp fun m hm=>(k1 (A m) L (hm.trans hy.symm)).trans he
theorem Eb{A:Nat→FT}{L:FT}(hA:To A L){id:Nat}{h:Heap}{s:List (Nat×AV)}{o:Oper}{e:bm}(he:cy P Eqs Sg L id h s o some=some e):sD fun m=>cy P Eqs Sg (A m) id h s o some=some e:=by
 obtain⟨dst,op,type,pos,after,guard⟩:=o
 cases op with
 |call c =>
  obtain⟨callee,args,argTypes⟩:=c
  cases callee with
  |value f =>
   simp only[cy]at he
   split at he
   ·rename_i f' cap hf
    refine(O8 hA he).imp fun m hm=>?_
    simp only[cy,hf]
    exact hm
   ·cases he
  |builtin bi=>cases bi<;>exact .now fun m=>he
  |invoke _ _=>exact .now fun m=>he
 |unOp u _ _=>cases u<;>exact .now fun m=>he
 |makeFunc fn _ _=>cases fn<;>exact .now fun m=>he
 |makeMap _ r=>cases r<;>exact .now fun m=>he
 |next _ b=>cases b<;>exact .now fun m=>he
 |_=>exact .now fun m=>he
theorem sD.all{p:Nat→Nat→Prop}:∀(n:Nat),(∀j,j<n→sD (p j))→sD fun m=>∀j,j<n→p j m
 |0,_=>.now fun m j hj=>absurd hj (Nat.not_lt_zero _)
 |n+1,h=>(sD.all n fun j hj=>h j (by omega)).and (h n (by omega)) fun m h1 h2 j hj=>by
  by_cases e:j=n
  ·subst e;exact h2
  ·exact h1 j (by omega)
theorem GO{h:Heap}{x:AV}{K:Nat→AV→Heap→Option R}{KL:AV→Heap→Option R}(hK:∀v h y,KL v h=some y→sD fun m=>K m v h=some y){r:R}(he:kd h x KL=some r):sD fun m=>kd h x (K m)=some r:=by
 unfold kd at he ⊢
 split at he
 ·rename_i id
  split at he
  ·rename_i kk vk p hg
   try simp only[hg]
   cases hp:p.2 with
   |nil =>
    simp only[hp,List.isEmpty_nil,cond_true]at he ⊢
    exact hK _ _ _ he
   |cons c l =>
    simp only[hp,List.isEmpty_cons,cond_false]at he ⊢
    have h1:=mI he
    refine(sD.all _ fun j hj=>?_).imp fun m hm=>kf (by simp) hm
    have h2:=h1 j hj
    rw[List.getElem?_eq_getElem hj]at h2 ⊢
    simp only[Option.bind_some]at h2 ⊢
    exact hK _ _ _ h2
  ·cases he
 ·cases he
theorem L7{h:Heap}{x:AV}{want:Bool}{K:Nat→AV→Option R}{KL:AV→Option R}(hK:∀v y,KL v=some y→sD fun m=>K m v=some y){r:R}(he:sK h x want KL=some r):sD fun m=>sK h x want (K m)=some r:=by
 unfold sK at he ⊢
 split at he
 ·exact hK _ _ he
 ·rename_i xs hv
  cases qf:xs.isEmpty with
  |true =>
   simp only[qf,cond_true]at he ⊢
   have h1:=mI he
   exact(sD.all _ fun j hj=>hK _ _ (h1 j hj)).imp fun m hm=>kf (by decide) hm
  |false =>
   simp only[qf,cond_false]at he ⊢
   exact hK _ _ he
 ·cases he
theorem yC{A:Nat→FT}{L:FT}(hA:To A L){rid:Nat}{draw:Bool}{ops:Array Oper}{b:Array Nat}{K:Nat→St→Option R}{KL:St→Option R}(hK:ToK K KL) :
  ∀(l:List (Nat×Oper)) (st:St) (r:R),ba P Eqs Sg L rid draw ops b l st KL=some r→sD fun m=>ba P Eqs Sg (A m) rid draw ops b l st (K m)=some r
 |[],st,r,he=>hK st r (by simpa only[ba] using he)
 |(i,o)::l,st,r,he=>by
  have ih:=yC hA (rid:=rid) (draw:=draw) (ops:=ops) (b:=b) hK l
  have run:∀st:St,(match (if draw then none else np P (opId rid i) st o) with
    |some dI=>ba P Eqs Sg L rid draw ops b l dI KL
    |none=>match (if draw then none else sJ o) with
    |some x=>kd st.heap (ρ st.tmps x) fun v h=>ba P Eqs Sg L rid draw ops b l (({ st with heap:=h }:St).put o.dst v) KL
    |none=>match (if draw then none else isNil P o) with
    |some (x,want)=>sK st.heap (ρ st.tmps x) want fun v=>ba P Eqs Sg L rid draw ops b l (st.put o.dst v) KL
    |none=>if draw then cy P Eqs Sg L (opId rid i) (fW (ahead rid (b.getD i 0) st.heap) (fX ops b i st.tmps o)) st.tmps o fun e =>
     if(fP true rid ops b i (b.getD i 0) (fQ (fX ops b i st.tmps o) (ahead rid (b.getD i 0) st.heap) e)&&lZ (fX ops b i st.tmps o) e)=true then
      ba P Eqs Sg L rid draw ops b l ({ st with heap:=match fQ (fX ops b i st.tmps o) (ahead rid (b.getD i 0) st.heap) e with | .wr _ h=>h|e=>e.h st.heap }.put o.dst e.v) KL else none
     else cy P Eqs Sg L (opId rid i) st.heap st.tmps o fun e =>
     if fP false rid ops b i (2 ^ i-1) e then ba P Eqs Sg L rid draw ops b l ({ st with heap:=match e with | .wr _ h=>h|e=>e.h st.heap }.put o.dst e.v) KL else none)=some r →
    sD fun m=>(match (if draw then none else np P (opId rid i) st o) with
    |some dI=>ba P Eqs Sg (A m) rid draw ops b l dI (K m)
    |none=>match (if draw then none else sJ o) with
    |some x=>kd st.heap (ρ st.tmps x) fun v h=>ba P Eqs Sg (A m) rid draw ops b l (({ st with heap:=h }:St).put o.dst v) (K m)
    |none=>match (if draw then none else isNil P o) with
    |some (x,want)=>sK st.heap (ρ st.tmps x) want fun v=>ba P Eqs Sg (A m) rid draw ops b l (st.put o.dst v) (K m)
    |none=>if draw then cy P Eqs Sg (A m) (opId rid i) (fW (ahead rid (b.getD i 0) st.heap) (fX ops b i st.tmps o)) st.tmps o fun e =>
     if(fP true rid ops b i (b.getD i 0) (fQ (fX ops b i st.tmps o) (ahead rid (b.getD i 0) st.heap) e)&&lZ (fX ops b i st.tmps o) e)=true then
      ba P Eqs Sg (A m) rid draw ops b l ({ st with heap:=match fQ (fX ops b i st.tmps o) (ahead rid (b.getD i 0) st.heap) e with | .wr _ h=>h|e=>e.h st.heap }.put o.dst e.v) (K m) else none
     else cy P Eqs Sg (A m) (opId rid i) st.heap st.tmps o fun e =>
     if fP false rid ops b i (2 ^ i-1) e then ba P Eqs Sg (A m) rid draw ops b l ({ st with heap:=match e with | .wr _ h=>h|e=>e.h st.heap }.put o.dst e.v) (K m) else none)=some r:=by
   intro st h
   split at h
   ·rename_i dI mH
    try simp only[mH]
    exact ih _ r h
   rename_i mH
   split at h
   ·rename_i x Be
    try simp only[mH,Be]
    exact GO (fun v h y hy=>ih _ y hy) h
   rename_i Be
   split at h
   ·rename_i x want Us
    try simp only[mH,Be,Us]
    exact L7 (fun v y hy=>ih _ y hy) h
   rename_i Us
   try simp only[mH,Be,Us]
   cases draw with
   |true =>
    simp only[if_true]at h ⊢
    rw[kt]at h
    obtain⟨e,h1,h2⟩:=Option.bind_eq_some_iff.1 h
    by_cases hc:(fP true rid ops b i (b.getD i 0) (fQ (fX ops b i st.tmps o) (ahead rid (b.getD i 0) st.heap) e)&&lZ (fX ops b i st.tmps o) e)=true
    ·rw[if_pos hc]at h2
     refine(Eb hA h1).and (ih _ r h2) fun m h3 h4=>?_
     rw[kt,h3,Option.bind_some,if_pos hc]
     exact h4
    ·rw[if_neg hc]at h2;cases h2
   |false =>
    simp only[Bool.false_eq_true,if_false]at h ⊢
    rw[kt]at h
    obtain⟨e,h1,h2⟩:=Option.bind_eq_some_iff.1 h
    by_cases hc:fP false rid ops b i (2 ^ i-1) e=true
    ·rw[if_pos hc]at h2
     refine(Eb hA h1).and (ih _ r h2) fun m h3 h4=>?_
     rw[kt,h3,Option.bind_some,if_pos hc]
     exact h4
    ·rw[if_neg hc]at h2;cases h2
  simp only[ba]at he ⊢
  split at he
  ·rename_i hg
   try simp only[hg]
   exact run _ he
  ·rename_i j want hg
   try simp only[hg]
   split at he
   ·cases he
   ·rename_i d hd
    try simp only[hd]
    split at he
    ·rename_i t ht
     try simp only[ht]
     cases t<;>cases want<;>simp only[cond_true,cond_false,if_true,if_false,Bool.false_eq_true]at he ⊢<;>first|exact run _ he|exact ih _ r he
    ·rename_i ht
     try simp only[ht]
     exact ih _ r he
    ·cases he
theorem AF{A:Nat→FT}{L:FT}(hA:To A L){n rid:Nat}{ops:Array Oper}{draw:Bool}{K:Nat→St→Option R}{KL:St→Option R}(hK:ToK K KL){st:St}{r:R}
  (he:gy P Eqs Sg L n rid ops draw st KL=some r):sD fun m=>gy P Eqs Sg (A m) n rid ops draw st (K m)=some r:=by
 unfold gy at he ⊢
 by_cases hc:((ops.all fun o=>gx n o)&&(!draw || (sG ops (if draw then Region.before ops else #[])&&(xu ops (if draw then Region.before ops else #[])&&bP (ops.toList.filterMap (·.dst)))))&&decide (ops.size≤128))=true
 ·dsimp only at he ⊢
  rw[if_pos hc]at he
  refine(yC hA hK _ _ r he).imp fun m hm=>?_
  rw[if_pos hc]
  exact hm
 ·dsimp only at he
  rw[if_neg hc]at he;cases he
theorem fK{A:Nat→FT}{L:FT}(hA:To A L){n:Nat}{ann:Nat→Option Shape}{J:Nat→(sh:Shape)→List Item→sh.T→Option R}{JL:(sh:Shape)→List Item→sh.T→Option R}(hJ:ToJ J JL){ret:St→Option R} :
  ∀(fu:Nat) (items:List Item) (st:St) (r:R),av P Eqs Sg L n ann JL ret fu items st=some r→sD fun m=>av P Eqs Sg (A m) n ann (J m) ret fu items st=some r
 |0,items,st,r,he=>by cases items<;>simp only[av]at he<;>cases he
 |fu+1,[],st,r,he=>.now fun m=>by simpa only[av] using he
 |fu+1,it::JV,st,r,he=>by
  have ih:=fK hA (n:=n) (ann:=ann) hJ (ret:=ret) fu
  cases it with
  |inBlock id=>simp only[av]at he ⊢;exact ih _ _ _ he
  |inScope c=>simp only[av]at he ⊢;exact ih _ _ _ he
  |inLoop c =>
   simp only[av]at he ⊢
   split at he
   ·cases he
   ·rename_i sh hsh
    try simp only[hsh]
    split at he
    ·rename_i x hx
     try simp only[hx]
     exact hJ _ _ _ _ he
    ·cases he
  |code c =>
   cases c with
   |cond c x y =>
    simp only[av]at he ⊢
    split at he
    ·rename_i t ht
     try simp only[ht]
     cases t<;>simp only[cond_true,cond_false]at he ⊢<;>exact ih _ _ _ he
    ·cases he
   |exit id =>
    simp only[av]at he ⊢
    split at he
    ·rename_i k' hk
     try simp only[hk]
     exact ih _ _ _ he
    ·cases he
   |ret=>exact .now fun m=>by simpa only[av] using he
   |region id ops draw =>
    simp only[av]at he ⊢
    exact AF hA (K:=fun m dI=>av P Eqs Sg (A m) n ann (J m) ret fu JV dI) (fun st y h=>ih JV st y h) he
   |skip=>simp only[av]at he ⊢;exact ih _ _ _ he
   |label l=>simp only[av]at he ⊢;exact ih _ _ _ he
   |seq x y=>simp only[av]at he ⊢;exact ih _ _ _ he
   |block id c=>simp only[av]at he ⊢;exact ih _ _ _ he
   |scope c=>simp only[av]at he ⊢;exact ih _ _ _ he
   |loop c=>simp only[av]at he ⊢;exact ih _ _ _ he
   |_=>simp only[av]at he;cases he
  |_=>simp only[av]at he;cases he
section
variable {An:FuncId→Nat→Option Shape} {G:(f:FuncId)→(g:aK)→Option (g.A→Option g.B)}
def RW(F F':FT):Prop:=∀f g x y,F f g x=some y→F' f g x=some y
theorem RW.to{F F':FT}(h:RW F F'):To (fun _=>F') F:=fun f g x y hy=>.now fun _=>h f g x y hy
theorem sD.get{p:Prop}(h:sD fun _=>p):p:=by obtain⟨m,hm⟩:=h;exact hm m (Nat.le_refl _)
theorem mJ{F F':FT}(h:RW F F'){f:FuncId}{g:aK}{fn:Func}:∀(n n':Nat) (sh:Shape) (k:List Item) (x:sh.T) (y:g.B),n≤n'→lz P Eqs Sg An F f g fn n sh k x=some y→lz P Eqs Sg An F' f g fn n' sh k x=some y
 |0,_,_,_,_,_,_,hx=>by simp only[lz]at hx;cases hx
 |n+1,0,_,_,_,_,hn,_=>by omega
 |n+1,n'+1,sh,k,x,y,hn,hx=>by
  cases k with
  |nil=>simp only[lz]at hx;cases hx
  |cons it k =>
   cases it with
   |inLoop c =>
    simp only[lz]at hx ⊢
    exact(fK h.to (J:=fun _=>lz P Eqs Sg An F' f g fn n') (JL:=lz P Eqs Sg An F f g fn n) (fun sh k x y hy=>.now fun _=>mJ h n n' sh k x y (by omega) hy) _ _ _ _ hx).get
   |_=>simp only[lz]at hx;cases hx
theorem JW{F F':FT}(h:RW F F'){f:FuncId}{g:aK}{n n':Nat}{x:g.A}{y:g.B}(hn:n≤n')(hx:F9 P Eqs Sg An F f g n x=some y):F9 P Eqs Sg An F' f g n' x=some y:=by
 unfold F9 at hx ⊢
 split at hx
 ·cases hx
 ·rename_i fn c hb
  try simp only[hb]
  split at hx
  ·rename_i hc
   simp only[if_pos hc]
   exact(fK h.to (J:=fun _=>lz P Eqs Sg An F' f g fn n') (JL:=lz P Eqs Sg An F f g fn n) (fun sh k x y hy=>.now fun _=>mJ h n n' sh k x y hn hy) _ _ _ _ hx).get
  ·cases hx
theorem wT:∀m,RW (Fn P Eqs Sg An G m) (Fn P Eqs Sg An G (m+1))
 |0,f,g,x,y,hx=>by
  simp only[Fn]at hx ⊢
  split at hx
  ·rename_i u hu;(try simp only[hu]);exact hx
  ·cases hx
 |m+1,f,g,x,y,hx=>by
  rw[Fn]at hx ⊢
  split at hx
  ·rename_i u hu;(try simp only[hu]);exact hx
  ·rename_i hu
   try simp only[hu]
   exact JW (wT m) (Nat.le_succ m) hx
theorem wU{m m':Nat}(h:m≤m'):RW (Fn P Eqs Sg An G m) (Fn P Eqs Sg An G m'):=by
 induction h with
 |refl=>exact fun _ _ _ _ h=>h
 |step _ ih=>exact fun f g x y hx=>wT _ f g x y (ih f g x y hx)
variable (P Eqs Sg An G) in
open Classical in
noncomputable def Fix:FT:=fun f g x=>if h:∃m y,Fn P Eqs Sg An G m f g x=some y then some (Classical.choose (Classical.choose_spec h)) else none
theorem CE:To (Fn P Eqs Sg An G) (Fix P Eqs Sg An G):=fun f g x y hy=>by
 unfold Fix at hy
 split at hy
 ·rename_i h
  cases hy
  exact⟨Classical.choose h,fun m' hm=>wU hm _ _ _ _ (Classical.choose_spec (Classical.choose_spec h))⟩
 ·cases hy
theorem L8{m:Nat}{f:FuncId}{g:aK}{x:g.A}{y:g.B}(h:Fn P Eqs Sg An G m f g x=some y):Fix P Eqs Sg An G f g x=some y:=by
 have he:∃m y,Fn P Eqs Sg An G m f g x=some y:=⟨m,y,h⟩
 cases hy:Fix P Eqs Sg An G f g x with
 |none=>unfold Fix at hy;rw[dif_pos he]at hy;cases hy
 |some y' =>
  obtain⟨m1,h1⟩:=CE f g x y' hy
  have h2:=h1 (max m m1) (by omega)
  have h3:=wU (show m≤max m m1 by omega) f g x y h
  rw[h2]at h3
  exact h3
variable (P Eqs Sg An G) in
open Classical in
noncomputable def Lp(f:FuncId)(g:aK)(fn:Func)(sh:Shape)(k:List Item)(x:sh.T):Option g.B :=
 if h:∃m y,lz P Eqs Sg An (Fn P Eqs Sg An G m) f g fn m sh k x=some y then some (Classical.choose (Classical.choose_spec h)) else none
theorem L9{f:FuncId}{g:aK}{fn:Func}:ToJ (fun m=>lz P Eqs Sg An (Fn P Eqs Sg An G m) f g fn m) (Lp P Eqs Sg An G f g fn):=fun sh k x y hy=>by
 unfold Lp at hy
 split at hy
 ·rename_i h
  cases hy
  exact⟨Classical.choose h,fun m' hm=>mJ (wU hm) _ _ _ _ _ _ hm (Classical.choose_spec (Classical.choose_spec h))⟩
 ·cases hy
theorem UA{m:Nat}{f:FuncId}{g:aK}{fn:Func}{sh:Shape}{k:List Item}{x:sh.T}{y:g.B}(h:lz P Eqs Sg An (Fn P Eqs Sg An G m) f g fn m sh k x=some y):Lp P Eqs Sg An G f g fn sh k x=some y:=by
 have he:∃m y,lz P Eqs Sg An (Fn P Eqs Sg An G m) f g fn m sh k x=some y:=⟨m,y,h⟩
 cases hy:Lp P Eqs Sg An G f g fn sh k x with
 |none=>unfold Lp at hy;rw[dif_pos he]at hy;cases hy
 |some y' =>
  obtain⟨m1,h1⟩:=L9 sh k x y' hy
  have h2:=h1 (max m m1) (by omega)
  have h3:=mJ (wU (show m≤max m m1 by omega)) m (max m m1) sh k x y (by omega) h
  exact h2.symm.trans h3
theorem Ie{f:FuncId}{g:aK}{x:g.A}{y:g.B}{fn:Func}{c:Code}(hG:G f g=none)(hb:body P (f%1000)=some (fn,c))(hc:(decide (g.ps.length≤fn.ntmps)&&decide (g.bs.length≤8))=true)
  (h:av P Eqs Sg (Fix P Eqs Sg An G) fn.ntmps (An f) (Lp P Eqs Sg An G f g fn) (o6 P g fn) fuel [.code c] (entry g x)=some y):Fix P Eqs Sg An G f g x=some y:=by
 obtain⟨m,hm⟩:=fK (CE (P:=P) (Eqs:=Eqs) (Sg:=Sg) (An:=An) (G:=G)) (L9 (f:=f) (g:=g) (fn:=fn)) _ _ _ _ h
 refine L8 (m:=m+1) ?_
 simp only[Fn,hG]
 unfold F9
 simp only[hb,if_pos hc]
 exact hm m (Nat.le_refl _)
theorem Bm{f:FuncId}{g:aK}{x:g.A}{y:g.B}{u:g.A→Option g.B}(hG:G f g=some u)(h:u x=some y):Fix P Eqs Sg An G f g x=some y:=by
 refine L8 (m:=0) ?_
 simp only[Fn,hG]
 exact h
theorem Ma{f:FuncId}{g:aK}{fn:Func}{sh:Shape}{c:Code}{k:List Item}{x:sh.T}{y:g.B}
  (h:av P Eqs Sg (Fix P Eqs Sg An G) fn.ntmps (An f) (Lp P Eqs Sg An G f g fn) (o6 P g fn) fuel (.code c::.inLoop c::k) (aj sh x)=some y):Lp P Eqs Sg An G f g fn sh (.inLoop c::k) x=some y:=by
 obtain⟨m,hm⟩:=fK (CE (P:=P) (Eqs:=Eqs) (Sg:=Sg) (An:=An) (G:=G)) (L9 (f:=f) (g:=g) (fn:=fn)) _ _ _ _ h
 refine UA (m:=m+1) ?_
 simp only[lz]
 refine(fK (L:=Fn P Eqs Sg An G m) (RW.to (wT m)) (J:=fun _=>lz P Eqs Sg An (Fn P Eqs Sg An G (m+1)) f g fn m) (JL:=lz P Eqs Sg An (Fn P Eqs Sg An G m) f g fn m) (fun sh k x y hy=>.now fun _=>mJ (wT m) m m sh k x y (Nat.le_refl _) hy) _ _ _ _ (hm m (Nat.le_refl _))).get
theorem wV(hX:∀f g u,Sg f=some g→g.x=some u→fR P (f%1000) u)(Ag:∀t k,Eqs t=some k→kH P t k)(JF:∀f g,Sg f=some g→ir P (f%1000))(hm:P.follows .mixedOrders=true)
  (hG:∀f g u x y,Sg f=some g→G f g=some u→u x=some y→A8 P f g x y) {f:FuncId} {g:aK} {x:g.A} {y:g.B} (hs:Sg f=some g) (h:Fix P Eqs Sg An G f g x=some y):A8 P f g x y:=by
 obtain⟨m,OP⟩:=CE f g x y h
 exact Ea hX Ag JF hm hG m f g x y hs (OP m (Nat.le_refl _))
end
end Go.Vs
namespace Go.Vs
open Go.Proofs
abbrev ab:=((Int×Int)×Int)
abbrev ID:=(Int×Int)
abbrev ah:=(ID×((List ab)×(ByteArray×Int)))
abbrev aq:=(ID×(ByteArray×Int))
abbrev ak:=((List ah)×(List aq))
abbrev aF:=(ab×ab)
abbrev StateT:=(ak×(List aF))
abbrev tn:=(ID×ab)
abbrev bh:=(Int×(ID×(ID×(ID×(tn×(tn×(Bool×(ByteArray×Int))))))))
abbrev aB:=((List ah)×((List aq)×((List aF)×Unit)))
abbrev k13:K:=(.pair .str (.int .u64))
abbrev ow:K:=(.pair (.int .i64) (.int .i64))
abbrev k68:K:=(.pair .str (.pair (.int .i64) .bool))
abbrev b8:K:=(.pair ow (.int .i64))
abbrev k7:K:=(.pair (.int .i64) (.pair (.int .i64) (.pair .bool (.int .u8))))
abbrev iL:K:=(.pair ow (.pair .str (.int .i64)))
abbrev TA:K:=(.pair ow b8)
abbrev dY:K:=(.pair b8 b8)
abbrev fL:K:=(.pair ow (.pair (.sl b8) (.pair .str (.int .i64))))
abbrev ox:K:=(.pair (.sl fL) (.sl iL))
abbrev wW:K:=(.pair ox (.sl dY))
abbrev FZ:K:=(.pair (.int .i64) (.pair ow (.pair ow (.pair ow (.pair TA (.pair TA (.pair .bool (.pair .str (.int .i64)))))))))
abbrev Di:K:=(.one (.sl FZ))
def nO(xs:List ah)(ys:List aq):Bool:=decide (xs.length≤50000000)&&(decide (ys.length≤50000000)&&xs.all fun v=>decide (v.2.1.length≤50000000))
def CF(h:Heap)(id:Nat):List AV→Option (Bool×bm)
 |[.agg [.bp a,.bp b]]=>match dz h (.row 52 fL) (.bp a),dz h (.row 118 iL) (.bp b) with
  |some xs,some ys=>if a=b then none else some (nO xs ys,.new (.agg [.bp (id+128),.bp (id+129)]) [(id+128,.own (.row 52 fL) xs),(id+129,.own (.row 118 iL) ys)])
  |_,_=>none
 |_=>none
def Mb:aK:={ ps:=[.val wW,.val Di],bs:=[],rs:=[.val wW,.val (.int .i64)] }
def Ec:aK:={ ps:=[.val wW,.val Di],bs:=[],rs:=[.val wW] }
def Mc:aK:={ ps:=[.val FZ],bs:=[],rs:=[.val (.int .i64)] }
def Ed:aK:={ ps:=[.val wW,.val (.sl FZ)],bs:=[],rs:=[.val wW,.val (.int .i64)] }
def CG:aK:={ ps:=[.val Di],bs:=[],rs:=[.val (.int .i64)] }
def CH:aK:={ ps:=[.val ox],bs:=[],rs:=[.agg [.own (.row 52 fL),.own (.row 118 iL)]] }
def Ee:aK:={ ps:=[.val (.sl dY)],bs:=[],rs:=[.own (.row 54 dY)] }
def Md:aK:={ ps:=[.val FZ],bs:=[],rs:=[.val FZ,.val (.int .i64)] }
def CI:aK:={ ps:=[.ref,.val FZ],bs:=[.box 155 [.own (.row 52 fL),.own (.row 118 iL),.val (.sl dY)]],rs:=[.val (.int .i64)] }
def JX:aK:={ ps:=[.val (.sl fL)],bs:=[],rs:=[.own (.row 52 fL)] }
def JY:aK:={ ps:=[.val (.sl iL)],bs:=[],rs:=[.own (.row 118 iL)] }
def wx:aK:={ ps:=[.val (.sl b8)],bs:=[],rs:=[.own (.row 33 b8)] }
def pH:aK:={ ps:=[.val ow],bs:=[],rs:=[.val .bool] }
def AG:aK:={ ps:=[.val TA],bs:=[],rs:=[.val .bool] }
def uO:aK:={ ps:=[.val .str],bs:=[],rs:=[.val .bool] }
def Ef:aK:={ ps:=[.val (.int .i64)],bs:=[],rs:=[.val .bool] }
def Eg:aK:={ ps:=[.ref,.val fL],bs:=[.box 155 [.own (.row 52 fL),.own (.row 118 iL),.val (.sl dY)]],rs:=[.val (.int .i64)] }
def Me:aK:={ ps:=[.ref,.val FZ],bs:=[.box 155 [.own (.row 52 fL),.own (.row 118 iL),.val (.sl dY)]],rs:=[.val (.int .i64)] }
def nP:aK:={ ps:=[.ref,.val FZ],bs:=[.box 155 [.own (.row 52 fL),.own (.row 118 iL),.val (.sl dY)]],rs:=[.val (.int .i64)] }
def yD:aK:={ ps:=[.ref,.val FZ],bs:=[.box 155 [.own (.row 52 fL),.own (.row 118 iL),.val (.sl dY)]],rs:=[.val (.int .i64)] }
def wy:aK:={ ps:=[.ref,.val FZ],bs:=[.box 155 [.own (.row 52 fL),.own (.row 118 iL),.val (.sl dY)]],rs:=[.val (.int .i64)] }
def pI:aK:={ ps:=[.ref,.val FZ],bs:=[.box 155 [.own (.row 52 fL),.own (.row 118 iL),.val (.sl dY)]],rs:=[.val (.int .i64)] }
def Mf:aK:={ ps:=[.ref,.val FZ],bs:=[.box 155 [.own (.row 52 fL),.own (.row 118 iL),.val (.sl dY)]],rs:=[.val (.int .i64)] }
def Eh:aK:={ ps:=[.val b8],bs:=[],rs:=[.val .bool] }
def oy:aK:={ ps:=[.ref,.val ow],bs:=[.box 155 [.own (.row 52 fL),.own (.row 118 iL),.val (.sl dY)]],rs:=[.val (.int .i64),.val .bool] }
def QD:aK:={ ps:=[],bs:=[],rs:=[],x:=some (K5 52 fL) }
def QE:aK:={ ps:=[],bs:=[],rs:=[],x:=some (Ow 52 fL) }
def vX:aK:={ ps:=[.ref,.val ow],bs:=[.box 155 [.own (.row 52 fL),.own (.row 118 iL),.val (.sl dY)]],rs:=[.val (.int .i64)] }
def yE:aK:={ ps:=[.val ow],bs:=[],rs:=[.val b8,.val b8] }
def Ei:aK:={ ps:=[.val wW,.val TA],bs:=[],rs:=[.val TA,.val (.int .i64)] }
def yF:aK:={ ps:=[.val (.sl b8),.val b8,.val b8],bs:=[],rs:=[.own (.row 33 b8)] }
def yG:aK:={ ps:=[.val ox],bs:=[],rs:=[.val .bool] }
def lM:aK:={ ps:=[.ref,.val ow],bs:=[.box 155 [.own (.row 52 fL),.own (.row 118 iL),.val (.sl dY)]],rs:=[.val (.int .i64),.val .bool] }
def yH:aK:={ ps:=[.ref,.val b8,.val b8],bs:=[.box 155 [.own (.row 52 fL),.own (.row 118 iL),.val (.sl dY)]],rs:=[] }
def yI:aK:={ ps:=[.ref,.val b8],bs:=[.box 155 [.own (.row 52 fL),.own (.row 118 iL),.val (.sl dY)]],rs:=[.val b8] }
def kV:aK:={ ps:=[.ref,.val b8],bs:=[.box 155 [.own (.row 52 fL),.own (.row 118 iL),.val (.sl dY)]],rs:=[.dM 0 [(0,5,0)]] }
def Ej:aK:={ ps:=[.val (.sl b8),.val b8],bs:=[],rs:=[.own (.row 33 b8)] }
def QF:aK:={ ps:=[],bs:=[],rs:=[],x:=some (Ow 118 iL) }
def rp:aK:={ ps:=[.val (.sl b8),.val b8,.val b8],bs:=[],rs:=[.own (.row 33 b8)] }
def mK:aK:={ ps:=[.val b8],bs:=[],rs:=[.val b8] }
def pJ:aK:={ ps:=[.val (.sl b8)],bs:=[],rs:=[.own (.row 33 b8)] }
def Ek:aK:={ ps:=[.ref,.val FZ],bs:=[.box 155 [.own (.row 52 fL),.own (.row 118 iL),.val (.sl dY)]],rs:=[.dM 0 [(0,5,3),(1,4,2)],.dM 0 [(0,5,4),(1,4,3)]] }
def Bn:aK:={ ps:=[.val fL,.val ow],bs:=[],rs:=[.val (.int .i64)] }
def yJ:aK:={ ps:=[.val ow,.val ow],bs:=[],rs:=[.val (.int .i64)] }
def QG:aK:={ ps:=[],bs:=[],rs:=[],x:=some (K5 118 iL) }
def El:aK:={ ps:=[.val ox,.val ow],bs:=[],rs:=[.val fL,.val .bool] }
def vY:aK:={ ps:=[.val wW,.val b8],bs:=[],rs:=[.val b8] }
def tp:aK:={ ps:=[.val (.sl b8),.val b8],bs:=[],rs:=[.val .bool] }
def kW:aK:={ ps:=[.val (.sl b8),.val b8],bs:=[],rs:=[.val (.int .i64)] }
def mL:aK:={ ps:=[.val (.sl (.sl b8))],bs:=[],rs:=[.own (.row 33 b8)] }
def Em:aK:={ ps:=[.val ox],bs:=[],rs:=[.val (.int .i64)] }
def Bo:aK:={ ps:=[.val iL,.val ow],bs:=[],rs:=[.val (.int .i64)] }
def En:aK:={ ps:=[.val (.sl dY),.val dY],bs:=[],rs:=[.own (.row 54 dY)] }
def Bp:aK:={ ps:=[.val (.sl b8),.val b8],bs:=[],rs:=[.val b8,.val .bool] }
def Bq:aK:={ ps:=[.val b8,.val b8],bs:=[],rs:=[.val (.int .i64)] }
def mM:aK:={ ps:=[.val (.sl (.sl b8))],bs:=[],rs:=[.own (.row 33 b8)] }
def tq:aK:={ ps:=[.val (.sl (.int .i64))],bs:=[],rs:=[.val (.int .i64)] }
def yK:aK:={ ps:=[.val (.int .i64),.val (.int .i64)],bs:=[],rs:=[.val (.int .i64)] }
def Eo:aK:={ ps:=[.val fL],bs:=[],rs:=[.val ow] }
def tu:aK:={ ps:=[.val ox,.val b8],bs:=[],rs:=[.val ow,.val .bool] }
def Ep:aK:={ ps:=[.val (.sl dY),.val b8],bs:=[],rs:=[.val b8,.val .bool] }
def Er:aK:={ ps:=[.val ox],bs:=[],rs:=[.val (.int .i64),.val (.int .i64),.val (.int .i64),.val (.int .i64)] }
def Br:aK:={ ps:=[.val dY,.val b8],bs:=[],rs:=[.val (.int .i64)] }
def QH:aK:={ ps:=[],bs:=[],rs:=[],x:=some (K5 54 dY) }
def yL:aK:={ ps:=[.val (.sl b8),.val b8,.val (.int .i64)],bs:=[],rs:=[.val b8,.val .bool] }
def QI:aK:={ ps:=[],bs:=[],rs:=[],x:=some (K6 33 b8) }
def yM:aK:={ ps:=[.val (.int .i64)],bs:=[],rs:=[.val .bool] }
def Es:aK:={ ps:=[.val dY,.ref],bs:=[.box 33 [.val (.int .i64),.val (.int .i64),.val (.int .i64)]],rs:=[.val .bool] }
def Et:aK:={ ps:=[.val fL],bs:=[],rs:=[.val .bool] }
def vZ:aK:={ ps:=[.val ox],bs:=[],rs:=[.own (.row 50 (.sl b8))] }
def v5:aK:={ ps:=[.val ox],bs:=[],rs:=[.val (.int .i64)] }
def tv:aK:={ ps:=[.val ox],bs:=[],rs:=[.own (.row 33 b8)] }
def QJ:aK:={ ps:=[.val ox],bs:=[],rs:=[.own (.row 28 (.sl ow))] }
def Bu:aK:={ ps:=[.val ox,.val b8],bs:=[],rs:=[.val b8,.val .bool] }
def gm:aK:={ ps:=[.val ox],bs:=[],rs:=[.own (.row 3 (.int .i64))] }
def v7:aK:={ ps:=[.val ox,.val b8],bs:=[],rs:=[.val b8,.val .bool] }
def Eu:aK:={ ps:=[.own,.val (.int .i64),.val (.int .i64)],bs:=[.own (.row 3 (.int .i64))],rs:=[] }
def pK:aK:={ ps:=[.own,.val (.int .i64)],bs:=[.own (.row 3 (.int .i64))],rs:=[.val (.int .i64)] }
def Ev:aK:={ ps:=[.val (.sl b8),.val b8],bs:=[],rs:=[.val b8,.val .bool] }
def iy:aK:={ ps:=[.val (.sl fL),.val ow,.Df 207 0],bs:=[],rs:=[.val (.int .i64),.val .bool] }
def iz:aK:={ ps:=[.val (.sl iL),.val ow,.Df 214 0],bs:=[],rs:=[.val (.int .i64),.val .bool] }
def jI:aK:={ ps:=[.val (.sl b8),.Df 195 0],bs:=[],rs:=[.val b8] }
def jJ:aK:={ ps:=[.val (.sl fL),.Df 109 0,.val ow],bs:=[],rs:=[.val fL,.val .bool] }
def iA:aK:={ ps:=[.val (.sl dY),.val b8,.Df 232 0],bs:=[],rs:=[.val (.int .i64),.val .bool] }
def iB:aK:={ ps:=[.val (.sl dY),.Df 245 1],bs:=[.box 33 [.val b8]],rs:=[.val (.int .i64)] }
def jK:aK:={ ps:=[.val (.sl fL),.Df 239 0],bs:=[],rs:=[.val (.int .i64)] }
def Ew:aK:={ ps:=[],bs:=[],rs:=[],x:=some CF }
def Mg:aK:={ ps:=[],bs:=[],rs:=[] }
abbrev k98:K:=(.pair Di ow)
abbrev N9:K:=(.pair wW (.pair (.int .i64) (.sl Di)))
abbrev bJ:=(StateT×(Int×((List (List bh))×Unit)))
def RX(h:Heap)(id:Nat):List AV→Option (Bool×bm)
 |[]=>some (true,.new (.ref (id+128) 0 0 0) [(id+128,.box 100 (enc N9 (j6 N9)))])
 |_=>none
def ab1(h:Heap)(id:Nat):List AV→Option (Bool×bm)
 |[.ref i 0 0 0]=>match AQ h i 100 with
  |some cs=>match dh N9 cs with
   |some x=>some (true,.new (.ref (id+128) 0 0 0) [(id+128,.box 100 (enc N9 x))])
   |none=>none
  |none=>none
 |_=>none
def rq:aK:={ ps:=[.val (.int .i64),.val (.int .i64)],bs:=[],rs:=[.val .bool] }
def Bv:aK:={ ps:=[.val wW,.val (.sl Di)],bs:=[],rs:=[.val wW] }
def Ex:aK:={ ps:=[],bs:=[],rs:=[.val .bool] }
def pM:aK:={ ps:=[.ref,.val Di],bs:=[.box 100 [.val wW,.val (.int .i64),.val (.sl Di)]],rs:=[.val (.int .i64),.val (.int .i64)] }
def tw:aK:={ ps:=[.val (.int .i64)],bs:=[],rs:=[.val Di] }
def Bw:aK:={ ps:=[.ref,.val (.int .i64)],bs:=[.box 100 [.val wW,.val (.int .i64),.val (.sl Di)]],rs:=[.val (.int .i64)] }
def rr:aK:={ ps:=[.ref],bs:=[.box 100 [.val wW,.val (.int .i64),.val (.sl Di)]],rs:=[.val (.int .i64)] }
def wa:aK:={ ps:=[.ref],bs:=[.box 100 [.val wW,.val (.int .i64),.val (.sl Di)]],rs:=[.val (.int .i64)] }
def Ey:aK:={ ps:=[.ref,.val (.int .i64)],bs:=[.box 100 [.val wW,.val (.int .i64),.val (.sl Di)]],rs:=[.val wW,.val (.int .i64)] }
def Ez:aK:={ ps:=[.val wW,.val Di],bs:=[],rs:=[] }
def EA:aK:={ ps:=[.val (.sl FZ)],bs:=[],rs:=[.val (.sl FZ)] }
def jL:aK:={ ps:=[.val wW,.val (.sl Di),.Df 61 0],bs:=[],rs:=[.val wW] }
def QK:aK:={ ps:=[],bs:=[],rs:=[],x:=some RX }
def JZ:aK:={ ps:=[],bs:=[],rs:=[] }
def J0:aK:={ ps:=[],bs:=[],rs:=[] }
def XW:List (Nat×aK):=[(63,Mb),(102,Ec),(104,Mc),(103,Ed),(66,CG),(96,CH),(97,Ee),(132,Md),(131,CI),(127,JX),(128,JY),(110,wx),(159,pH),(160,AG),(161,uO),(162,Ef),(152,Eg),(153,Me),(154,nP),(155,yD),(156,wy),(157,pI),(158,Mf),(190,Eh),(175,oy),(176,QD),(177,QE),(178,vX),(179,yE),(180,Ei),(181,yF),(172,yG),(182,lM),(183,yH),(184,yI),(185,kV),(141,Ej),(186,QF),(187,rp),(188,mK),(169,pJ),(189,Ek),(207,Bn),(208,yJ),(211,QG),(74,El),(212,vY),(166,tp),(168,kW),(170,mL),(204,Em),(214,Bo),(215,En),(140,Bp),(195,Bq),(196,mM),(218,tq),(219,yK),(109,Eo),(139,tu),(230,Ep),(226,Er),(232,Br),(233,QH),(167,yL),(220,QI),(235,yM),(245,Es),(239,Et),(240,vZ),(241,v5),(249,tv),(251,QJ),(255,Bu),(256,gm),(258,v7),(259,Eu),(260,pK),(261,Ev),(208206,iy),(215213,iz),(196194,jI),(110108,jJ),(233231,iA),(246244,iB),(240238,jK),(500096,Ew),(900025,Mg),(5,rq),(18,Bv),(23,Ex),(25,pM),(26,tw),(27,Bw),(28,rr),(29,wa),(31,Ey),(61,Ez),(67,EA),(62060,jL),(24,QK),(2514003,JZ),(3537003,J0)]
def Sg(f:FuncId):Option aK:=(XW.find? (fun p=>p.1==f)).map (fun p=>p.2)
def eqs:List (Nat×K):=[(31,ow),(33,b8),(35,TA),(37,FZ),(118,iL),(54,dY)]
def Eqs(t:TypeId):Option K:=(eqs.find? (fun p=>p.1==t)).map (fun p=>p.2)
def yN:Shape:=⟨[(18,.sl (.pair (.int .i64) (.pair (.pair (.int .i64) (.int .i64)) (.pair (.pair (.int .i64) (.int .i64)) (.pair (.pair (.int .i64) (.int .i64)) (.pair (.pair (.pair (.int .i64) (.int .i64)) (.pair (.pair (.int .i64) (.int .i64)) (.int .i64))) (.pair (.pair (.pair (.int .i64) (.int .i64)) (.pair (.pair (.int .i64) (.int .i64)) (.int .i64))) (.pair .bool (.pair .str (.int .i64)))))))))),(19,.int .i64),(20,.int .i64)],[(.slot 4,20000,.box 44 [.own (.row 52 fL),.own (.row 118 iL),.own (.row 54 dY)]),(.slot 6,20001,.box 155 [.own (.row 52 fL),.own (.row 118 iL),.val (.sl dY)])],[],[]⟩
def yO:Shape:=⟨[(17,.sl (.pair (.int .i64) (.pair (.pair (.int .i64) (.int .i64)) (.pair (.pair (.int .i64) (.int .i64)) (.pair (.pair (.int .i64) (.int .i64)) (.pair (.pair (.pair (.int .i64) (.int .i64)) (.pair (.pair (.int .i64) (.int .i64)) (.int .i64))) (.pair (.pair (.pair (.int .i64) (.int .i64)) (.pair (.pair (.int .i64) (.int .i64)) (.int .i64))) (.pair .bool (.pair .str (.int .i64)))))))))),(18,.int .i64),(19,.int .i64)],[],[],[]⟩
def yP:Shape:=⟨[(14,.int .i64),(15,.int .i64)],[(.slot 2,20000,.box 41 [.own (.row 52 fL),.own (.row 118 iL)]),(.slot 3,20001,.box 41 [.own (.row 52 fL),.own (.row 118 iL)])],[],[]⟩
def uP:Shape:=⟨[(0,.str)],[],[(6,31000,.mq)],[]⟩
def kX:Shape:=⟨[(48,.int .i64),(49,.int .i64)],[(.slot 0,1000,.box 155 [.own (.row 52 fL),.own (.row 118 iL),.val (.sl dY)]),(.slot 5,20001,.box 44 [.val wW]),(.slot 7,20002,.box 33 [.val b8])],[(9,31000,(.row 33 (.pair (.pair (.int .i64) (.int .i64)) (.int .i64)))),(47,31001,(.row 35 (.pair (.pair (.int .i64) (.int .i64)) (.pair (.pair (.int .i64) (.int .i64)) (.int .i64)))))],[]⟩
def CJ:Shape:=⟨[(5,.int .i64),(32,.int .i64),(33,.int .i64)],[(.slot 0,1000,.box 155 [.own (.row 52 fL),.own (.row 118 iL),.val (.sl dY)]),(.slot 7,20001,.box 33 [.val b8]),(.slot 8,20002,.box 33 [.val b8])],[(31,31000,(.row 33 (.pair (.pair (.int .i64) (.int .i64)) (.int .i64))))],[]⟩
def uQ:Shape:=⟨[(5,.int .i64),(47,.int .i64),(48,.int .i64)],[(.slot 0,1000,.box 155 [.own (.row 52 fL),.own (.row 118 iL),.val (.sl dY)])],[(46,31000,(.row 33 (.pair (.pair (.int .i64) (.int .i64)) (.int .i64))))],[]⟩
def mh:Shape:=⟨[(113,.int .i64)],[(.slot 0,1000,.box 155 [.own (.row 52 fL),.own (.row 118 iL),.val (.sl dY)]),(.slot 8,20001,.box 33 [.val b8]),(.slot 9,20002,.box 33 [.val b8]),(.slot 10,20003,.box 33 [.val b8])],[],[]⟩
def wX:Shape:=⟨[(7,.int .i64)],[(.slot 0,1000,.box 155 [.own (.row 52 fL),.own (.row 118 iL),.val (.sl dY)]),(.slot 3,20001,.box 33 [.val b8]),(.slot 4,20002,.box 33 [.val b8]),(.slot 5,20003,.box 33 [.val b8])],[],[]⟩
def tx:Shape:=⟨[(12,.int .i64),(13,.int .i64)],[(.slot 0,1000,.box 155 [.own (.row 52 fL),.own (.row 118 iL),.val (.sl dY)]),(.slot 3,20001,.box 33 [.val b8])],[],[]⟩
def tz:Shape:=⟨[(12,.int .i64),(13,.int .i64)],[(.slot 2,20000,.box 44 [.val wW]),(.slot 3,20001,.box 33 [.val b8]),(.slot 4,20002,.box 33 [.val b8])],[],[]⟩
def tB:Shape:=⟨[(0,.sl (.pair (.pair (.int .i64) (.int .i64)) (.int .i64))),(7,.int .i64),(8,.int .i64)],[(.slot 3,20000,.box 33 [.val b8])],[],[]⟩
def tC:Shape:=⟨[(0,.sl (.sl (.pair (.pair (.int .i64) (.int .i64)) (.int .i64)))),(3,.int .i64),(9,.sl (.sl (.pair (.pair (.int .i64) (.int .i64)) (.int .i64)))),(10,.int .i64),(11,.int .i64)],[],[],[]⟩
def tD:Shape:=⟨[(25,.sl (.sl (.pair (.pair (.int .i64) (.int .i64)) (.int .i64)))),(26,.int .i64),(27,.int .i64)],[],[(6,31000,(.row 33 (.pair (.pair (.int .i64) (.int .i64)) (.int .i64))))],[]⟩
def wY:Shape:=⟨[(3,.int .i64),(6,.sl (.int .i64)),(7,.int .i64),(8,.int .i64)],[],[],[]⟩
def tE:Shape:=⟨[(9,.sl (.pair (.pair (.int .i64) (.int .i64)) (.pair (.sl (.pair (.pair (.int .i64) (.int .i64)) (.int .i64))) (.pair .str (.int .i64))))),(10,.int .i64),(11,.int .i64)],[(.slot 3,20000,.box 33 [.val b8]),(.slot 4,20001,.box 31 [.val ow])],[],[]⟩
def tF:Shape:=⟨[(8,.sl (.pair (.pair (.int .i64) (.int .i64)) (.pair .str (.int .i64)))),(9,.int .i64),(10,.int .i64)],[],[(3,31000,(.row 33 b8))],[]⟩
def qu:Shape:=⟨[(18,.sl (.pair (.pair (.int .i64) (.int .i64)) (.pair (.sl (.pair (.pair (.int .i64) (.int .i64)) (.int .i64))) (.pair .str (.int .i64))))),(19,.int .i64),(20,.int .i64)],[],[(3,31000,(.row 3 (.int .i64))),(4,31001,(.map (.pair (.pair (.int .i64) (.int .i64)) (.int .i64)) (.int .i64)))],[]⟩
def tG:Shape:=⟨[(5,.int .i64),(18,.sl (.pair (.pair (.int .i64) (.int .i64)) (.pair (.sl (.pair (.pair (.int .i64) (.int .i64)) (.int .i64))) (.pair .str (.int .i64))))),(19,.int .i64),(20,.int .i64),(30,.sl (.pair (.pair (.int .i64) (.int .i64)) (.int .i64))),(31,.int .i64),(32,.int .i64)],[],[(3,31000,(.row 3 (.int .i64))),(4,31001,(.map (.pair (.pair (.int .i64) (.int .i64)) (.int .i64)) (.int .i64)))],[]⟩
def nQ:Shape:=⟨[(4,.mp (.pair (.pair (.int .i64) (.int .i64)) (.int .i64)) (.int .i64))],[],[(3,31000,(.row 3 (.int .i64))),(42,31001,(.iter (.pair (.pair (.int .i64) (.int .i64)) (.int .i64)) (.int .i64)))],[]⟩
def tH:Shape:=⟨[(61,.int .i64),(62,.int .i64)],[],[(3,31000,(.row 3 (.int .i64))),(13,31001,(.row 3 (.int .i64)))],[]⟩
def tI:Shape:=⟨[(11,.sl (.pair (.pair (.int .i64) (.int .i64)) (.pair (.sl (.pair (.pair (.int .i64) (.int .i64)) (.int .i64))) (.pair .str (.int .i64))))),(12,.int .i64),(13,.int .i64)],[(.slot 3,20000,.box 33 [.val b8]),(.slot 4,20001,.box 33 [.val b8])],[],[]⟩
def qv:Shape:=⟨[(1,.int .i64)],[],[(0,1000,(.row 3 (.int .i64)))],[]⟩
def gK:Shape:=⟨[(0,.sl (.pair (.pair (.int .i64) (.int .i64)) (.pair (.sl (.pair (.pair (.int .i64) (.int .i64)) (.int .i64))) (.pair .str (.int .i64))))),(8,.int .i64),(9,.int .i64),(10,.int .i64)],[(.slot 4,20000,.box 31 [.val ow])],[],[(2,207,[])]⟩
def gL:Shape:=⟨[(0,.sl (.pair (.pair (.int .i64) (.int .i64)) (.pair .str (.int .i64)))),(8,.int .i64),(9,.int .i64),(10,.int .i64)],[(.slot 4,20000,.box 31 [.val ow])],[],[(2,214,[])]⟩
def jf:Shape:=⟨[(0,.sl (.pair (.pair (.int .i64) (.int .i64)) (.int .i64))),(6,.int .i64)],[(.slot 4,20000,.box 33 [.val b8]),(.slot 5,20001,.box 33 [.val b8])],[],[(1,195,[])]⟩
def kY:Shape:=⟨[(11,.sl (.pair (.pair (.int .i64) (.int .i64)) (.pair (.sl (.pair (.pair (.int .i64) (.int .i64)) (.int .i64))) (.pair .str (.int .i64))))),(12,.int .i64),(13,.int .i64)],[(.slot 5,20000,.box 31 [.val ow]),(.slot 6,20001,.box 52 [.val (.int .i64),.val (.int .i64),.own (.row 33 b8),.val .str,.val (.int .i64)])],[],[(1,109,[])]⟩
def gM:Shape:=⟨[(0,.sl (.pair (.pair (.pair (.int .i64) (.int .i64)) (.int .i64)) (.pair (.pair (.int .i64) (.int .i64)) (.int .i64)))),(8,.int .i64),(9,.int .i64),(10,.int .i64)],[(.slot 4,20000,.box 33 [.val b8])],[],[(2,232,[])]⟩
def jg:Shape:=⟨[(0,.sl (.pair (.pair (.pair (.int .i64) (.int .i64)) (.int .i64)) (.pair (.pair (.int .i64) (.int .i64)) (.int .i64)))),(7,.int .i64),(8,.int .i64)],[(.cap 1 0,1000,.box 33 [.val b8])],[],[(1,245,[1000])]⟩
def jh:Shape:=⟨[(5,.int .i64),(8,.sl (.pair (.pair (.int .i64) (.int .i64)) (.pair (.sl (.pair (.pair (.int .i64) (.int .i64)) (.int .i64))) (.pair .str (.int .i64))))),(9,.int .i64),(10,.int .i64)],[],[],[(1,239,[])]⟩
def kg:Shape:=⟨[(1,.int .i64),(7,.int .i64),(8,.int .i64)],[(.slot 6,20000,.box 100 [.val wW,.val (.int .i64),.val (.sl Di)])],[],[]⟩
def kZ:Shape:=⟨[(13,.sl Di),(14,.int .i64),(15,.int .i64)],[(.slot 6,20000,.box 44 [.own (.row 52 fL),.own (.row 118 iL),.own (.row 54 dY)]),(.slot 7,20001,.box 44 [.val wW])],[],[(2,61,[])]⟩
def ans:List (Nat×List (Nat×Shape)):=[(103,[(3,yN)]),(66,[(4,yO)]),(96,[(3,yP)]),(161,[(2,uP)]),(154,[(8,kX)]),(155,[(6,CJ),(11,uQ)]),(157,[(19,mh)]),(184,[(3,wX)]),(185,[(2,tx)]),(212,[(2,tz)]),(168,[(2,tB)]),(196,[(3,tC),(11,tD)]),(218,[(3,wY)]),(139,[(2,tE)]),(249,[(3,tF)]),(256,[(4,qu),(8,tG),(14,nQ),(21,tH)]),(258,[(2,tI)]),(260,[(1,qv)]),(208206,[(3,gK)]),(215213,[(3,gL)]),(196194,[(5,jf)]),(110108,[(2,kY)]),(233231,[(3,gM)]),(246244,[(2,jg)]),(240238,[(3,jh)]),(5,[(7,kg)]),(62060,[(3,kZ)])]
def An(f:FuncId)(key:Nat):Option Shape:=(ans.find? (fun p=>p.1==f)).bind fun p=>(p.2.find? (fun q=>q.1==key)).map (fun q=>q.2)
abbrev JT(g:aK):=(sh:Shape)→List Item→sh.T→Option g.B
noncomputable def dt(f:FuncId)(g:aK)(fn:Func)(F:FT)(J:JT g)(x:g.A):Option g.B:=av Tryz.prog Eqs Sg F fn.ntmps (An f) J (o6 Tryz.prog g fn) fuel [.code (fn.body.getD .skip)] (entry g x)
noncomputable def qw(f j:Nat)(g:aK)(fn:Func)(sh:Shape)(F:FT)(J:JT g)(x:sh.T):Option g.B:=av Tryz.prog Eqs Sg F fn.ntmps (An f) J (o6 Tryz.prog g fn) fuel (round (bY Tryz.prog (f%1000) j)) (aj sh x)
end Go.Vs
namespace Go.Vs
open Go.Proofs
variable {G:(f:FuncId)→(g:aK)→Option (g.A→Option g.B)}
noncomputable abbrev FX(G:(f:FuncId)→(g:aK)→Option (g.A→Option g.B)):FT:=Fix Tryz.prog Eqs Sg An G
noncomputable abbrev LX(G:(f:FuncId)→(g:aK)→Option (g.A→Option g.B))(f:FuncId)(g:aK)(fn:Func):JT g:=Lp Tryz.prog Eqs Sg An G f g fn
abbrev HG(G:(f:FuncId)→(g:aK)→Option (g.A→Option g.B)):Prop:=∀f g,(f==240 || f==241)=false→G f g=none
theorem aI{f:FuncId}{g:aK}{fn:Func}{x:g.A}{y:g.B}(hG:G f g=none)(hb:body Tryz.prog (f%1000)=some (fn,fn.body.getD .skip))(hc:(decide (g.ps.length≤fn.ntmps)&&decide (g.bs.length≤8))=true)
  (h:dt f g fn (FX G) (LX G f g fn) x=some y):FX G f g x=some y:=Ie hG hb hc h
theorem aQ{f j:Nat}{g:aK}{fn:Func}{sh:Shape}{x:sh.T}{y:g.B}(hs:(match bY Tryz.prog (f%1000) j with | .inLoop _::_=>true|_=>false)=true)
  (h:qw f j g fn sh (FX G) (LX G f g fn) x=some y):LX G f g fn sh (bY Tryz.prog (f%1000) j) x=some y:=by
 unfold qw at h
 generalize bY Tryz.prog (f%1000) j=s at hs h ⊢
 split at hs
 ·exact Ma h
 ·cases hs
abbrev aab:=(Int×(Int×Unit))
abbrev aal:=(ab×Unit)
abbrev aam:=((bh×Unit)×(aB×Unit))
abbrev aan:=(ID×Unit)
abbrev aaq:=(aal×Unit)
abbrev aar:=((StateT×((List bh)×Unit))×Unit)
abbrev aau:=(Int×Unit)
abbrev aav:=((List ab)×Unit)
abbrev aax:=(((List ab)×aal)×Unit)
abbrev aay:=((ak×Unit)×Unit)
abbrev aaB:=(aB×Unit)
abbrev aaF:=((List Int)×Unit)
abbrev aaI:=((List ah)×aab)
end Go.Vs
