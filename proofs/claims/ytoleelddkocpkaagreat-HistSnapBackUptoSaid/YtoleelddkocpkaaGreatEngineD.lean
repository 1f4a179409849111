/- The value semantics is sound -/
import Derived.Test.YtoleelddkocpkaaGreatEngineC
import Derived.Test.YtoleelddkocpkaaGreatProg
import Derived.Scope
import Derived.KernelRfl
set_option linter.unusedSimpArgs false
set_option linter.unusedVariables false
namespace Go.Vs
variable {P:Program} {Eqs:TypeId→Option K} {Sg:FuncId→Option aO} {F:(f:FuncId)→(g:aO)→g.A→Option g.B} {R:Type}
variable {Z Z' Z0:Nat→Prop} {ψ ψ' ψ0:Nat→Value} {h h':Hp} {w w' w0:World} {B0:Nat} {O N:Nat→Prop}
def fV(st:St):(l:List (Nat×Nat×OK))→MS (l.map (·.2.2))→List AD
 |[],_=>[]
 |(s,id,ok)::r,x=>(id,(qB (look st.tmps s)).head?,.own ok x.1)::fV st r x.2
theorem xn(st:St):∀(l:List (Nat×Nat×OK)) (x:MS (l.map (·.2.2))),ep (fV st l x)=sK l x
 |[],_=>rfl
 |(s,id,ok)::r,x=>by simp only[fV,sK];rw[←xn st r x.2];rfl
theorem vx(st:St):∀(l:List (Nat×Nat×OK)) (x:MS (l.map (·.2.2))),(fV st l x).map (·.1)=l.map (·.2.1)
 |[],_=>rfl
 |(s,id,ok)::r,x=>by simp only[fV,List.map_cons];rw[vx st r x.2]
theorem AO(st:St):∀(l:List (Nat×Nat×OK)) (x:MS (l.map (·.2.2))),(fV st l x).filterMap (·.2.1)=l.flatMap fun p=>qB (look st.tmps p.1)
 |[],_=>rfl
 |(s,id,ok)::r,x=>by simp only[fV,List.flatMap_cons];rw[eF,AO st r x.2];simp only[];rw[zc]
theorem sW{st:St}{s id:Nat}{ok:OK}{r:List (Nat×Nat×OK)}{x:MS (((s,id,ok)::r).map (·.2.2))}(hd:qE st ((s,id,ok)::r)=some x):eT st.heap ok (look st.tmps s)=some x.1∧qE st r=some x.2:=by
 have e:qE st ((s,id,ok)::r)=(match eT st.heap ok (look st.tmps s),qE st r with
  |some x,some y=>some ((x,y):ok.T×MS (r.map (·.2.2)))
  |_,_=>none):=rfl
 grind
theorem Df{hd:Hp}{st:St}:∀(l:List (Nat×Nat×OK)) (x:MS (l.map (·.2.2))),qE st l=some x→(∀s∈(l.flatMap fun p=>qB (look st.tmps p.1)),hd s=st.heap.get s) → ∀e∈fV st l x,xe Z ψ hd w h' ψ' e
 |[],_,_,_,e,he=>by simp[fV]at he
 |(s,id,ok)::r,x,hx,hk,e,he=>by
  obtain⟨h1,h2⟩:=sW hx;simp only[List.flatMap_cons]at hk;simp only[fV]at he;rcases abD.1 he with rfl|he
  ·exact OT h1 fun s hs=>hk s (abM _ hs)
  ·exact Df r x.2 h2 (fun s hs=>hk s (abL _ hs)) e he
theorem Kr{st:St}{s:Nat}{k:K}{r:List (Nat×K)}{x:JK (((s,k)::r).map (·.2))}(hd:vP st ((s,k)::r)=some x):ia k st.heap (look st.tmps s)=some x.1∧vP st r=some x.2:=by
 have e:vP st ((s,k)::r)=(match ia k st.heap (look st.tmps s),vP st r with
  |some x,some y=>some ((x,y):k.T×JK (r.map (·.2)))
  |_,_=>none):=rfl
 grind
theorem fD{T:List (Nat×AV)}{n:Nat}{a:Act}(jQ:∀p∈T,aA Z ψ h w p.2 (a.tmps.getD p.1 undef))(hs:a.tmps.size=n)(hd:a.defers=[]):cX Z ψ h w n (look T) a:=by
 refine⟨fun d=>?_,hs,hd⟩
 induction T with
 |nil=>simp only[look,aA]
 |cons p r ih =>
  grind [look,List.mem_cons_self,List.mem_cons_of_mem]
section
variable {st:St} {n:Nat} {a:Act}
theorem xp(g:Good Z ψ st.heap.get w B0 O)(t:cX Z ψ st.heap.get w n (look st.tmps) a)(hz:∀b,Z b→Z' b):∀(l:List (Nat×K)) (x:JK (l.map (·.2))),vP st l=some x →(∀id b,AV.bN id∈(l.flatMap fun p=>(look st.tmps p.1).cells)→st.heap.get id≠none→ob (ψ id)=some b→Z' b)→∀p∈sJ l x,aA Z' ψ' h' w p.2 (a.tmps.getD p.1 undef)
 |[],_,_,_,p,hp=>by simp[sJ]at hp
 |(s,k)::r,x,hx,hf,p,hp=>by
  obtain⟨h1,h2⟩:=Kr hx;simp only[List.flatMap_cons]at hf;simp only[sJ]at hp;rcases abD.1 hp with rfl|hp
  ·exact tU g hz (fun id b bM=>hf id b (abM _ bM)) h1 (t.rep s)
  ·exact xp g t hz r x.2 h2 (fun id b bM=>hf id b (abL _ bM)) p hp
theorem vz(t:cX Z ψ st.heap.get w n (look st.tmps) a):∀(l:List (Src×Nat×BK)) (ids:List Nat),HW st l=some ids→(∀i∈ids,st.heap.get i≠none) →(∀p∈ids.zip (l.map (·.2.1)),h' p.2≠none→ψ' p.2=ψ p.1)→∀p∈ky l,aA Z' ψ' h' w p.2 (a.tmps.getD p.1 undef)
 |[],_,_,_,_,p,hp=>by simp[ky]at hp
 |(src,pe,b)::r,ids,hx,hi,kg,p,hp=>by
  simp only[HW]at hx
  split at hx
  ·rename_i i is h1 h2
   cases hx
   simp only[List.map_cons,List.zip_cons_cons]at kg;have ih:=vz t r is h2 (fun j hj=>hi j (abA _ hj)) (fun p hp=>kg p (abA _ hp)) p
   cases src with
   |slot s =>
    simp only[ky]at hp;rcases abD.1 hp with rfl|hp
    ·simp only[ZX]at h1;obtain⟨sz,h3⟩:=qN h1;have h4:=t.rep s
     grind [BP,List.mem_cons_self]
    ·exact ih hp
   |cap s j=>grind [ky]
  ·cases hx
theorem Ks{hh:Heap}{ids:List (Nat×Nat)}(hi:∀p∈ids,hh.get p.1≠none)(kg:∀p∈ids,h' p.2≠none→ψ' p.2=ψ p.1):∀(cap:List AV) (is HX:List Nat) (vs:List Value),ku cap=some is → is.map (fun i=>(ids.find? (·.1==i)).map (·.2))=HX.map some→au Z ψ hh.get w cap vs→au Z' ψ' h' w (HX.map fun i=>.ref i 0 0 0) vs
 |[],is,HX,vs,h1,h2,hr=>by simp_all [ku,List.map_nil,au]
 |v::cap,is,HX,vs,h1,h2,hr=>by
  simp only[ku]at h1
  split at h1
  ·rename_i i is' h3 h4
   cases h1
   cases HX with
   |nil=>simp at h2
   |cons c r =>
    simp only[List.map_cons,List.cons.injEq]at h2;obtain⟨h5,h6⟩:=h2;simp only[List.map_cons,au]at hr ⊢;obtain⟨u,us,rfl,h7,h8⟩:=hr;obtain⟨sz,rfl⟩:=qN h3
    cases hf:ids.find? (·.1==i) with
    |none=>simp_all
    |some p =>
     rw[hf]at h5;have hm:=adq hf;have he:=adG hf;simp only[Option.map_some,Option.some.injEq]at h5;have OM:p.1=i:=by simpa using he
     refine⟨u,us,rfl,BP h7 (by grind) (fun hn=>?_),Ks hi kg cap is' r us h4 h6 h8⟩
     grind
  ·cases h1
theorem AP(t:cX Z ψ st.heap.get w n (look st.tmps) a){ids:List (Nat×Nat)}(hi:∀p∈ids,st.heap.get p.1≠none)(kg:∀p∈ids,h' p.2≠none→ψ' p.2=ψ p.1):∀(l:List (Nat×FuncId×List Nat)),OL st ids l=true → ∀p∈BG l,aA Z' ψ' h' w p.2 (a.tmps.getD p.1 undef)
 |[],_,p,hp=>by simp[BG]at hp
 |(s,f,HX)::r,hx,p,hp=>by
  simp only[OL,Bool.and_eq_true]at hx;simp only[BG,List.map_cons]at hp;rcases abD.1 hp with rfl|hp
  ·have h1:=hx.1
   split at h1
   ·rename_i f' cap hl;simp only[Bool.and_eq_true,decide_eq_true_eq]at h1;obtain⟨rfl,h2⟩:=h1
    split at h2
    ·rename_i is hri;have h4:=t.rep s;rw[hl]at h4;simp only[aA]at h4 ⊢;obtain⟨vs,h5,h6⟩:=h4;exact⟨vs,h5,Ks hi kg cap is HX _ hri (of_decide_eq_true h2) h6⟩
    ·cases h2
   ·cases h1
  ·exact AP t hi kg r hx.2 p hp
theorem xq(t:cX Z ψ st.heap.get w n (look st.tmps) a):∀(l:List (Nat×Nat×OK)) (x:MS (l.map (·.2.2))),qE st l=some x→(∀e∈fV st l x,h' e.1≠none→ψ' e.1=kC ψ e.2.1) → ∀p∈(l.map fun p=>(p.1,AV.bN p.2.1)),aA Z' ψ' h' w p.2 (a.tmps.getD p.1 undef)
 |[],_,_,_,p,hp=>by simp at hp
 |(s,id,ok)::r,x,hx,kg,p,hp=>by
  obtain⟨h1,h2⟩:=sW hx;simp only[fV]at kg;simp only[List.map_cons]at hp;rcases abD.1 hp with rfl|hp
  ·exact Ia h1 (t.rep s) (kg _ ab4)
  ·exact xq t r x.2 h2 (fun e he=>kg e (abA _ he)) p hp
end
theorem xt{st:St}{m:Nat}:∀(l:List (Nat×Nat×OK)) (x:MS (l.map (·.2.2))),pj st m l=true→∃o,(m,some m,o)∈fV st l x
 |[],_,h=>by cases h
 |(s,id,ok)::r,x,h=>by
  simp only[pj,Bool.or_eq_true,Bool.and_eq_true,beq_iff_eq]at h;rcases h with⟨rfl,h⟩|h
  ·grind [id,fV,qB,List.head?_cons,List.mem_cons_self]
  ·obtain⟨o,ho⟩:=xt r x.2 h;exact⟨o,abA _ ho⟩
theorem vA{st:St}{m:Nat}:∀(l:List (Nat×Nat×OK)) (x:MS (l.map (·.2.2))),qE st l=some x→pj st m l=true→st.heap.get m≠none
 |[],_,_,h=>by cases h
 |(s,id,ok)::r,x,hx,h=>by
  obtain⟨h1,h2⟩:=sW hx;simp only[pj,Bool.or_eq_true,Bool.and_eq_true,beq_iff_eq]at h;rcases h with⟨rfl,h⟩|h
  ·split at h
   ·rename_i i hl;have hi:i=id:=by simpa using h
    subst hi;rw[hl]at h1;simp only[eT]at h1
    split at h1
    ·rename_i hg;rw[hg];simp
    ·cases h1
   ·cases h
  ·exact vA r x.2 h2 h
theorem O3{lV:List AV}{hh:Heap}{b:Nat}(hb:so Z ψ hh.get lV b):Z b∨Own ψ hh.get b:=hb.imp (fun h=>h) fun⟨i,_,h2,h3⟩=>⟨i,h2,h3⟩
theorem gW{sh:Shape}{st:St}{x:sh.T}{n:Nat}{a:Act}(hx:cO sh st=some x)(k:Ok Z0 w0 O ψ0 Z ψ st.heap.get w)(t:cX Z ψ st.heap.get w n (look st.tmps) a) :
  ∃Z' ψ',Ok Z0 w0 O ψ0 Z' ψ' (aw sh x).heap.get w∧cX Z' ψ' (aw sh x).heap.get w n (look (aw sh x).tmps) a:=by
 unfold cO at hx
 split at hx
 ·cases hx
 rename_i ids yR
 split at hx
 ·rename_i xv xb xr hv hb hr Ft
  cases hx
  simp only[Bool.and_eq_true]at Ft;obtain⟨Kt,Ih,aj2,ap3⟩:=Ft;obtain⟨hlen,GI⟩:=jS _ _ _ hb;have hl':(sh.boxes.map (·.2.1)).length=sh.bs.length:=by simp[Shape.bs]
  let L:List AD:=cF sh.bs st.heap ids (sh.boxes.map (·.2.1)) 9000 xb++fV st sh.rows xr
  have eH:ep L=(aw sh (xv,xb,xr)).heap:=by show ep (_++_)=_;rw[n8,jR _ _ _ _ _ _ hb hl',xn];rfl
  have eN:L.map (·.1)=tO sh:=by show(_++_:List AD).map _=_;rw[List.map_append,iy _ _ _ _ _ _ hb hl',vx];rfl
  have eS:L.filterMap (·.2.1)=JP st sh ids:=by show(_++_:List AD).filterMap _=_;rw[List.filterMap_append,ll _ _ _ _ _ _ hb hl',AO];rfl
  have hn:cg (L.map (·.1))=true:=by simp_all
  have kg:=BO (ψ:=ψ) hn;have hz:∀b,Z b→so Z ψ st.heap.get (BF st sh ids) b:=fun b hb=>.inl hb;have JD:=(uc Kt).2 st.heap;have g':Good (so Z ψ st.heap.get (BF st sh ids)) (fC ψ L) (ep L).get w w0.heap.size O:=by
   refine zd k.dE Kt hn eS fun e he=>?_;rcases ab6.1 he with he|he
   ·exact mU k.dE hz sh.bs ids _ 9000 xb hb (fun id b bM h1 h2=>.inr ⟨id,abL _ bM,h1,h2⟩) (fun s hs=>JD s (abM _ hs)) (fun e he=>kg e (abM _ he)) e he
   ·exact Df sh.rows xr hr (fun s hs=>JD s (abL _ hs)) e he
  have abN:∀p∈ids.zip (sh.boxes.map (·.2.1)),(ep L).get p.2≠none→fC ψ L p.2=ψ p.1:=fun p hp bB=>by obtain⟨o,ho⟩:=ln sh.bs ids (sh.boxes.map (·.2.1)) 9000 xb (hh:=st.heap) hlen p hp;exact kg (p.2,some p.1,o) (abM _ ho) bB
  have JA:∀p∈ids.zip (sh.boxes.map (·.2.1)),st.heap.get p.1≠none:=fun p hp=>GI _ (List.of_mem_zip hp).1;refine⟨so Z ψ st.heap.get (BF st sh ids),fC ψ L,?_,?_⟩
  ·rw[←eH];refine⟨g',fun b hb=>.inl (k.gG b hb),fun b hb=>?_,k.os,k.tape,k.output,k.size,k.block,fun i hi bB=>?_⟩
   ·rcases O3 hb with h1|⟨id,h1,h2⟩
    ·exact k.fj b h1
    ·exact .inr (k.dE.live id b h1 h2).2.symm
   ·obtain⟨o,ho⟩:=abS.1 bB;obtain⟨s,hm⟩:=pH ho;have js:i∈tO sh:=by grind
    have h1:=adp.1 aj2 i js;simp only[Bool.or_eq_true,decide_eq_true_eq]at h1;rcases h1 with(h1|h1)|h1
    ·omega
    ·obtain⟨p,hp,he⟩:=List.any_eq_true.1 h1;simp only[Bool.and_eq_true,beq_iff_eq]at he;have h2:=abN p hp (by simp_all);rw[he.1,he.2]at h2;rw[h2];exact k.fix i hi (by grind)
    ·obtain⟨o',sq⟩:=xt sh.rows xr h1;have h2:fC ψ L i=ψ i:=kg (i,some i,o') (abL _ sq) bB;rw[h2];exact k.fix i hi (vA sh.rows xr hr h1)
  ·rw[←eH];refine fD (fun p hp=>?_) t.size t.defers;simp only[aw]at hp;rcases ab6.1 hp with hp|hp
   ·exact xp k.dE t hz sh.Bn xv hv (fun id b bM h1 h2=>.inr ⟨id,abM _ bM,h1,h2⟩) p hp
   ·rcases ab6.1 hp with hp|hp
    ·grind [vz]
    ·rcases ab6.1 hp with hp|hp
     ·grind [AP]
     ·exact xq t sh.rows xr hr (fun e he=>kg e (abL _ he)) p hp
 ·cases hx
end Go.Vs
namespace Go.Vs
variable {P:Program} {Eqs:TypeId→Option K} {Sg:FuncId→Option aO} {F:(f:FuncId)→(g:aO)→g.A→Option g.B} {R:Type}
variable {Z Z' Z0:Nat→Prop} {ψ ψ' ψ0:Nat→Value} {h h':Hp} {w w' w0:World} {B0:Nat} {O N:Nat→Prop}
def Reach(P:Program)(b:Frame)(cs:List Frame)(wh:Act→World→Prop)(m:Machine):Prop:=∃a' w' todo,wh a' w'∧Steps P m (lone { b.at a' todo with mode:=.returning } cs w')
theorem Reach.head{b:Frame}{cs:List Frame}{wh:Act→World→Prop}{m m':Machine}(h:step P m=.next m')(r:Reach P b cs wh m'):Reach P b cs wh m:=by obtain⟨a,w,todo,h1,h2⟩:=r;exact⟨a,w,todo,h1,.head h h2⟩
theorem Reach.steps{b:Frame}{cs:List Frame}{wh:Act→World→Prop}{m m':Machine}(h:Steps P m m')(r:Reach P b cs wh m'):Reach P b cs wh m:=by obtain⟨a,w,todo,h1,h2⟩:=r;exact⟨a,w,todo,h1,h.trans h2⟩
mutual
theorem Ku{p:Nat→Prop}(hp:∀i,p i):∀v:AV,aL p v
 |.ref id _ _ _=>by simp only[aL];exact hp id
 |.bN id=>by simp only[aL];exact hp id
 |.fn _ cap=>by simp only[aL];exact uo hp cap
 |.agg cs=>by simp only[aL];exact uo hp cs
 |.oG vs=>by simp only[aL];exact uo hp vs
 |.no=>by simp only[aL]
 |.bool _=>by simp only[aL]
 |.int _ _=>by simp only[aL]
 |.str _=>by simp only[aL]
 |.mg=>by simp only[aL]
 |.gh=>by simp only[aL]
 |.fp _ _ _=>by simp only[aL]
 |.sl _ _ _=>by simp only[aL]
 |.mp _ _ _=>by simp only[aL]
theorem uo{p:Nat→Prop}(hp:∀i,p i):∀l:List AV,aC p l
 |[]=>by simp only[aC]
 |v::r=>by simp only[aC];exact⟨Ku hp v,uo hp r⟩
end
theorem YA(s:Nat){n:Nat}{a:Act}{st:St}(k:Ok Z0 w0 O ψ0 Z ψ st.heap.get w)(t:cX Z ψ st.heap.get w n (look st.tmps) a):∃Z',Ok Z0 w0 O ψ0 Z' ψ (Tp s st).heap.get w∧cX Z' ψ (Tp s st).heap.get w n (look (Tp s st).tmps) a:=by
 unfold Tp
 split
 ·rename_i m hl
  split
  ·rename_i ty kk xs hg;have g:=k.dE;obtain⟨vs,Rs,yY⟩:=g.row m (.row ty kk) xs hg;have hs:∀i o,(st.heap.del m).get i=some o→st.heap.get i=some o:=fun i o hi=>by simp_all [tS,dY]
   have gg:=g.freeze (Z':=fun b=>Z b∨ob (ψ m)=some b) (h':=(st.heap.del m).get) hs (fun b hb=>.inl hb) (fun b hb=>hb.imp (fun h=>h) (fun hb=>⟨m,by rw[hg];simp,by rw[tS,bh],hb⟩));have n1:Next Z ψ st.heap.get w w0.heap.size O (fun _=>False) (fun b=>Z b∨ob (ψ m)=some b) ψ (st.heap.del m).get w:=⟨fun b hb=>.inl hb,fun b hb=>hb.imp (fun h=>h) (fun hb=>.inl ⟨m,by rw[hg];simp,hb⟩),cT.refl _ _ _,fun i hi=>by obtain⟨o,ho⟩:=abS.1 hi;simp_all,gg⟩;refine⟨_,k.next (fun id h=>h.elim) n1,⟨fun d=>?_,t.size,t.defers⟩⟩;rw[uk _ rfl];have hr:=t.rep d;by_cases hv:look st.tmps d=.bN m
   ·rw[hv]at hr ⊢;simp only[aA]at hr;have hu:=hr.2 (by rw[hg];simp);simp only[Bm,if_true,aA]
    grind [wY]
   ·have hf:Bm m (.sl false kk xs) (look st.tmps d)=look st.tmps d:=by
     unfold Bm
     grind
    rw[hf];exact n1.rep g (Ku (fun _ h=>h) _) hr
  grind
 grind
theorem Uj{n:Nat}{a:Act}(o:Option Shape){st:St}(k:Ok Z0 w0 O ψ0 Z ψ st.heap.get w)(t:cX Z ψ st.heap.get w n (look st.tmps) a):∃Z',Ok Z0 w0 O ψ0 Z' ψ (JQ o st).heap.get w∧cX Z' ψ (JQ o st).heap.get w n (look (JQ o st).tmps) a:=by
 unfold JQ
 split
 ·rename_i sh;generalize sh.rows=l
  induction l generalizing Z st with
  |nil=>grind
  |cons p r ih =>obtain⟨Z1,k1,t1⟩:=YA p.1 k t;exact ih k1 t1
 grind
theorem sX(V:Env P Eqs Sg F)(hm:P.follows .mixedOrders=true){n:Nat}{ann:Nat→Option Shape}{J:(sh:Shape)→List Item→sh.T→Option R}{ret:St→Option R}{r:R}{b:Frame}{cs:List Frame}{wh:Act→World→Prop} (hJ:∀sh c k x Z ψ a w,J sh (.inLoop c::k) x=some r→Ok Z0 w0 O ψ0 Z ψ (aw sh x).heap.get w→cX Z ψ (aw sh x).heap.get w n (look (aw sh x).tmps) a→Reach P b cs wh (lone (b.at a (.code c::.inLoop c::k)) cs w)) (u7:∀st Z ψ a w,ret st=some r→Ok Z0 w0 O ψ0 Z ψ st.heap.get w→cX Z ψ st.heap.get w n (look st.tmps) a→wh a w) :
  ∀(fu:Nat) (items:List Item) (st:St) (Z:Nat→Prop) (ψ:Nat→Value) (a:Act) (w:World),aF P Eqs Sg F n ann J ret fu items st=some r→Ok Z0 w0 O ψ0 Z ψ st.heap.get w→cX Z ψ st.heap.get w n (look st.tmps) a → Reach P b cs wh (lone (b.at a items) cs w)
 |0,items,st,Z,ψ,a,w,hx,k,t=>by
  grind [aF]
 |fu+1,[],st,Z,ψ,a,w,hx,k,t=>⟨a,w,[],u7 st Z ψ a w (by grind [aF]) k t,.one step_end⟩
 |fu+1,it::Tb,st,Z,ψ,a,w,hx,k,t=>by
  have ih:=sX V hm (ann:=ann) hJ u7 fu;have loop:∀c,(match ann (tP c) with
    |none=>none
    |some sh=>match cO sh st with
     |some x=>J sh (.inLoop c::Tb) x
     |none=>none)=some r→Reach P b cs wh (lone (b.at a (.code c::.inLoop c::Tb)) cs w):=fun c hx=>by
   grind [gW]
  cases it with
  |inBlock id=>exact .head step_inBlock (ih Tb st Z ψ a w (by grind [aF]) k t)
  |inScope c=>exact .head step_inScope (ih Tb st Z ψ a w (by grind [aF]) k t)
  |inLoop c=>exact .head step_inLoop (loop c (by grind [aF]))
  |code c =>
   cases c with
   |skip=>exact .head step_skip (ih Tb st Z ψ a w (by grind [aF]) k t)
   |label l=>exact .head step_label (ih Tb st Z ψ a w (by grind [aF]) k t)
   |seq x y=>exact .head step_seq (ih _ st Z ψ a w (by grind [aF]) k t)
   |cond c x y =>
    simp only[aF]at hx
    split at hx
    ·rename_i tt ht;have h1:=sV t c;rw[ht]at h1;simp only[aA]at h1
     cases tt with
     |true=>exact .head (step_cond h1) (ih _ st Z ψ a w hx k t)
     |false=>exact .head (step_cond h1) (ih _ st Z ψ a w hx k t)
    ·cases hx
   |scope c=>exact .head step_scope (ih _ st Z ψ a w (by grind [aF]) k t)
   |block id c=>exact .head step_block (ih _ st Z ψ a w (by grind [aF]) k t)
   |loop c =>
    simp only[aF]at hx
    cases fu with
    |zero=>grind [aF]
    |succ fu=>exact .head step_loop (loop c (by grind [aF]))
   |exit id =>
    simp only[aF]at hx
    split at hx
    ·rename_i k' hk;exact .head (step_exit hk) (ih _ st Z ψ a w hx k t)
    ·cases hx
   |ret=>exact⟨a,w,_,u7 st Z ψ a w (by grind [aF]) k t,.one step_ret⟩
   |region id ops draw =>simp only[aF]at hx;obtain⟨Zf,k,t⟩:=Uj (ann (500000+id)) k t;have hw:=Is V hm (Q:=fun e a w=>e=.normal∧∃fk Z ψ,aF P Eqs Sg F n ann J ret fu Tb fk=some r∧Ok Z0 w0 O ψ0 Z ψ fk.heap.get w∧cX Z ψ fk.heap.get w n (look fk.tmps) a) hx k t (fun fk Z ψ a w h1 h2 h3=>⟨rfl,fk,Z,ψ,h1,h2,h3⟩);obtain⟨e,a',w',⟨rfl,fk,Z',ψ',h1,h2,h3⟩,TW⟩:=hw b Tb cs;exact .steps TW (ih Tb fk Z' ψ' a' w' h1 h2 h3)
   |_=>grind [aF]
  |_=>grind [aF]
theorem sY{hh:Heap}{n:Nat}{s:List (Nat×AV)}{a:Act}(g:Good Z ψ hh.get w B0 O)(t:cX Z ψ hh.get w n (look s) a):∀(l:List ResultVar) (acc:Array Value) (vs:List AV),Au P hh s l=some vs → ∃us,(l.foldlM (fun(bs:Array Value) r=>do let y ←(match r with | .tmp t=>pure (a.tmps.getD t undef) | .cell p ty=>do loadVar ty (←asAddr (a.tmps.getD p undef)):Sem Value);pure (bs.push y)) acc:Sem (Array Value)).run P w=.ok (acc++us.toArray) w∧au Z ψ hh.get w vs us
 |[],acc,vs,hx=>by
  simp only[Au]at hx
  cases hx
  exact⟨[],by simp,by simp only[au]⟩
 |.tmp d::l,acc,vs,hx=>by
  simp only[Au]at hx
  split at hx
  ·rename_i iZ h1
   cases hx
   obtain⟨us,h2,h3⟩:=sY g t l (acc.push (a.tmps.getD d undef)) iZ h1;refine⟨a.tmps.getD d undef::us,?_,by simp only[au];exact⟨_,_,rfl,t.rep d,h3⟩⟩;simp only[List.foldlM_cons,Sem.run_bind,Sem.run_pure,Result.andThen_ok];rw[h2];simp
  ·cases hx
 |.cell d ty::l,acc,vs,hx=>by
  simp only[Au]at hx
  split at hx
  ·rename_i id sz off hd
   split at hx
   ·rename_i bt cs hg
    split at hx
    ·rename_i v iZ hv h1
     cases hx
     have h4:=t.rep d;rw[hd]at h4;simp only[aA]at h4;obtain⟨ad,h5,h6⟩:=h4;obtain⟨gg,ws,e1,e2,e3,e4⟩:=g.box id bt cs hg;have h7:=h6 (by rw[hg];simp);rw[e1]at h7;simp only[Yc,Nat.zero_mul,Nat.zero_add]at h7;subst h7;obtain⟨V,h8,h9⟩:=kA (a:=⟨gg,off,none⟩) (e3.drop off) (fun j u hu=>by rw[ct];simp only[World.cell?,e2];rw[List.getElem?_drop]at hu;simpa using hu) hv;have qq:(loadVar ty ⟨gg,off,none⟩).run P w=.ok V w:=by have:=h8;simpa[Instr.loadAt,Instr.sureAddr] using this
     obtain⟨us,h2,h3⟩:=sY g t l (acc.push V) iZ h1;refine⟨V::us,?_,by simp only[au];exact⟨_,_,rfl,h9,h3⟩⟩;have Fg:(asAddr (a.tmps.getD d undef)).run P w=.ok ⟨gg,off,none⟩ w:=by rw[h5];rfl
     simp only[List.foldlM_cons,Sem.run_bind,Fg,Sem.run_pure,Result.andThen_ok,qq];rw[h2];simp
    ·cases hx
   ·cases hx
  ·cases hx
theorem Kv{fn:Func}{hh:Heap}{n:Nat}{s:List (Nat×AV)}{a:Act}{vs:List AV}(g:Good Z ψ hh.get w B0 O)(t:cX Z ψ hh.get w n (look s) a)(hx:Au P hh s fn.results.toList=some vs) :
  ∃us v,(results fn a.tmps).run P w=.ok v w∧au Z ψ hh.get w vs us∧v=(if us.length=1 then us.headD undef else .tuple us.toArray):=by
 obtain⟨us,h1,h2⟩:=sY (P:=P) g t fn.results.toList #[] vs hx;refine⟨us,_,?_,h2,rfl⟩;have h3:(fn.results.mapM fun r=>(match r with | .tmp t=>pure (a.tmps.getD t undef) | .cell p ty=>do loadVar ty (←asAddr (a.tmps.getD p undef)):Sem Value)).run P w=.ok us.toArray w:=by simp_all [Array.mapM_eq_foldlM,Array.foldlM_toList]
 have h4:results fn a.tmps=(do
   let vs ←fn.results.mapM fun r=>(match r with | .tmp t=>pure (a.tmps.getD t undef) | .cell p ty=>do loadVar ty (←asAddr (a.tmps.getD p undef)):Sem Value)
   pure (if h:vs.size=1 then vs[0] else .tuple vs)):=rfl
 rw[h4,Sem.run_bind,h3,Result.andThen_ok,Sem.run_pure];congr 1;by_cases h5:us.length=1
 ·obtain⟨u,rfl⟩:=List.length_eq_one_iff.1 h5;simp
 simp_all
theorem gX:∀(ps:List PK) (ids:List Nat) (s:Nat) (x:JK (lZ ps)) (us:List Value),au Z ψ h w ((aV ps ids s x).map (·.2)) us→us.length=ps.length∧∀p∈aV ps ids s x,∃j u,p.1=s+j∧us[j]? = some u∧aA Z ψ h w p.2 u
 |[],ids,s,x,us,hr=>by simp only[aV,List.map_nil,au]at hr;subst hr;exact⟨rfl,fun p hp=>by simp[aV]at hp⟩
 |.val k::ps,ids,s,x,us,hr=>by
  simp only[aV,List.map_cons,au]at hr;obtain⟨u,jn,rfl,h1,h2⟩:=hr;obtain⟨h3,h4⟩:=gX ps ids (s+1) x.2 jn h2;refine⟨by simp[h3],fun p hp=>?_⟩;simp only[aV]at hp;rcases abD.1 hp with rfl|hp
  ·exact⟨0,u,rfl,rfl,h1⟩
  ·obtain⟨j,u',h5,h6,h7⟩:=h4 p hp;exact⟨j+1,u',by omega,by simpa using h6,h7⟩
 |.ref::ps,i::ids,s,x,us,hr=>by
  simp only[aV,List.map_cons,au]at hr;obtain⟨u,jn,rfl,h1,h2⟩:=hr;obtain⟨h3,h4⟩:=gX ps ids (s+1) x jn h2;refine⟨by simp[h3],fun p hp=>?_⟩;simp only[aV]at hp;rcases abD.1 hp with rfl|hp
  ·exact⟨0,u,rfl,rfl,h1⟩
  ·obtain⟨j,u',h5,h6,h7⟩:=h4 p hp;exact⟨j+1,u',by omega,by simpa using h6,h7⟩
 |.ref::ps,[],s,x,us,hr=>by
  simp only[aV,List.map_cons,au]at hr;obtain⟨u,jn,rfl,h1,h2⟩:=hr;obtain⟨h3,h4⟩:=gX ps [] (s+1) x jn h2;refine⟨by simp[h3],fun p hp=>?_⟩;simp only[aV]at hp;rcases abD.1 hp with rfl|hp
  ·exact⟨0,u,rfl,rfl,h1⟩
  ·obtain⟨j,u',h5,h6,h7⟩:=h4 p hp;exact⟨j+1,u',by omega,by simpa using h6,h7⟩
 |.own::ps,i::ids,s,x,us,hr=>by
  simp only[aV,List.map_cons,au]at hr;obtain⟨u,jn,rfl,h1,h2⟩:=hr;obtain⟨h3,h4⟩:=gX ps ids (s+1) x jn h2;refine⟨by simp[h3],fun p hp=>?_⟩;simp only[aV]at hp;rcases abD.1 hp with rfl|hp
  ·exact⟨0,u,rfl,rfl,h1⟩
  ·obtain⟨j,u',h5,h6,h7⟩:=h4 p hp;exact⟨j+1,u',by omega,by simpa using h6,h7⟩
 |.own::ps,[],s,x,us,hr=>by
  simp only[aV,List.map_cons,au]at hr;obtain⟨u,jn,rfl,h1,h2⟩:=hr;obtain⟨h3,h4⟩:=gX ps [] (s+1) x jn h2;refine⟨by simp[h3],fun p hp=>?_⟩;simp only[aV]at hp;rcases abD.1 hp with rfl|hp
  ·exact⟨0,u,rfl,rfl,h1⟩
  ·obtain⟨j,u',h5,h6,h7⟩:=h4 p hp;exact⟨j+1,u',by omega,by simpa using h6,h7⟩
 |.wN f m::ps,ids,s,x,us,hr=>by
  simp only[aV,List.map_cons,au]at hr;obtain⟨u,jn,rfl,h1,h2⟩:=hr;obtain⟨h3,h4⟩:=gX ps (ids.drop m) (s+1) x jn h2;refine⟨by simp[h3],fun p hp=>?_⟩;simp only[aV]at hp;rcases abD.1 hp with rfl|hp
  ·exact⟨0,u,rfl,rfl,h1⟩
  ·obtain⟨j,u',h5,h6,h7⟩:=h4 p hp;exact⟨j+1,u',by omega,by simpa using h6,h7⟩
 |.agg m::ps,ids,s,x,us,hr=>by
  simp only[aV,List.map_cons,au]at hr;obtain⟨u,jn,rfl,h1,h2⟩:=hr;obtain⟨h3,h4⟩:=gX ps (ids.drop m) (s+1) x jn h2;refine⟨by simp[h3],fun p hp=>?_⟩;simp only[aV]at hp;rcases abD.1 hp with rfl|hp
  ·exact⟨0,u,rfl,rfl,h1⟩
  ·obtain⟨j,u',h5,h6,h7⟩:=h4 p hp;exact⟨j+1,u',by omega,by simpa using h6,h7⟩
section
variable {An:FuncId→Nat→Option Shape}
theorem Dg(V:Env P Eqs Sg F)(hm:P.follows .mixedOrders=true){f:FuncId}{g:aO}{fn:Func}{y:g.B}{b:Frame}{cs:List Frame}{wh:Act→World→Prop} (u7:∀st Z ψ a w,sL P g fn st=some y→Ok Z0 w0 O ψ0 Z ψ st.heap.get w→cX Z ψ st.heap.get w fn.ntmps (look st.tmps) a→wh a w) :
  ∀(n:Nat) (sh:Shape) (c:Code) (k:List Item) (x:sh.T) (Z:Nat→Prop) (ψ:Nat→Value) (a:Act) (w:World),nM P Eqs Sg An F f g fn n sh (.inLoop c::k) x=some y → Ok Z0 w0 O ψ0 Z ψ (aw sh x).heap.get w→cX Z ψ (aw sh x).heap.get w fn.ntmps (look (aw sh x).tmps) a→Reach P b cs wh (lone (b.at a (.code c::.inLoop c::k)) cs w)
 |0,sh,c,k,x,Z,ψ,a,w,hx,_,_=>by simp only[nM]at hx;cases hx
 |n+1,sh,c,k,x,Z,ψ,a,w,hx,ko,t=>by simp only[nM]at hx;exact sX V hm (fun sh c k x Z ψ a w h1 h2 h3=>Dg V hm u7 n sh c k x Z ψ a w h1 h2 h3) u7 fuel _ _ Z ψ a w hx ko t
theorem It{n i:Nat}(h:i∈aQ n):∃j,j<n∧i=1000+20*j:=by
 unfold aQ at h;obtain⟨j,h1,rfl⟩:=acn.1 h
 grind
theorem Uk{α:Type}{l:List α}{a:α}(h:a∈l):(a,a)∈l.zip l:=by
 induction l with
 |nil=>cases h
 |cons b r ih =>
  simp only[List.zip_cons_cons]
  grind
theorem Nr(V:Env P Eqs Sg F)(hm:P.follows .mixedOrders=true){f:FuncId}{g:aO}{n:Nat}{x:g.A}{y:g.B}(hx:MT P Eqs Sg An F f g n x=some y):GF P f g x y:=by
 intro Z ψ0 w lp hg hr;unfold MT at hx
 split at hx
 ·cases hx
 rename_i fn c aaq;have hf:P.funcs[f%1000]? = some fn∧fn.body=some c:=by
  unfold body at aaq;obtain⟨fn',h1,h2⟩:=ado.1 aaq;obtain⟨c',h3,h4⟩:=adj.1 h2
  cases h4
  exact⟨h1,h3⟩
 split at hx
 ·rename_i hle;simp only[Bool.and_eq_true,decide_eq_true_eq]at hle;obtain⟨hlen,abW⟩:=gX g.ps (aQ g.bs.length) 0 x.1 lp hr;intro cs
  let b:Frame:={ (default:Frame) with fn:=f%1000,kind:=.normal }
  let a0:Act:={ tmps:=lp.toArray++Array.replicate (fn.ntmps-lp.toArray.size) undef,defers:=[] }
  have abX:Frame.enter P (f%1000) lp.toArray .normal=b.at a0 [.code c]:=by simp[Frame.enter,Frame.at,hf.1,hf.2,b,a0]
  have ok0:Ok Z w (Own ψ0 (rK g x)) ψ0 Z ψ0 (entry g x).heap.get w :=⟨hg,fun _ h=>h,fun _ h=>.inl h,rfl,rfl,rfl,acf _,fun _ _ _=>rfl,fun _ _ _=>rfl⟩;have tr0:cX Z ψ0 (entry g x).heap.get w fn.ntmps (look (entry g x).tmps) a0:=by
   refine fD (fun p hp=>?_) (by simp[a0];omega) rfl;obtain⟨j,u,h1,h2,h3⟩:=abW p hp;rw[h1];have hj:j<lp.length:=(abC.1 h2).1;have:a0.tmps.getD (0+j) undef=u:=by rw[Nat.zero_add,Array.getD_eq_getD_getElem?];simp only[a0];rw[Array.getElem?_append_left (by simpa using hj)];simp[h2]
   rw[this];exact h3
  have u7:∀st Z1 oX a w1,sL P g fn st=some y→Ok Z w (Own ψ0 (rK g x)) ψ0 Z1 oX st.heap.get w1→cX Z1 oX st.heap.get w1 fn.ntmps (look st.tmps) a → a.defers=[]∧∃v,(results fn a.tmps).run P w1=.ok v w1∧∃v' Z' ψ',Ending.returned v=.returned v'∧(∀b,Z b→Z' b)∧(∀b,Z' b→Z b∨Own ψ0 (rK g x) b∨w.heap.size≤b)∧cT ψ0 (rK g x) w w1 ∧ Good Z' ψ' (lq g y).get w1 w.heap.size (Own ψ0 (rK g x))∧(∀i∈aQ g.bs.length,ψ' i=ψ0 i)∧aA Z' ψ' (lq g y).get w1 (fH (aW g.rs (aQ g.bs.length) 2000 3000 y.1)) v':=by
   intro st Z1 oX a w1 u7 k t;refine⟨t.defers,?_⟩;unfold sL at u7
   split at u7
   ·cases u7
   rename_i vs oW
   split at u7
   ·rename_i y1 y2 hd hb Ft
    cases u7
    simp only[Bool.and_eq_true]at Ft;obtain⟨Kt,Ih⟩:=Ft;obtain⟨us,v,h1,h2,h3⟩:=Kv (P:=P) k.dE t oW;have hl':(aQ g.bs.length).length=g.bs.length:=by simp[aQ]
    let L:List AD:=cF g.bs st.heap (aQ g.bs.length) (aQ g.bs.length) 2000 y2++cK g.rs vs 3000 y1
    have eH:ep L=lq g (y1,y2):=by show ep (_++_)=_;rw[n8,jR _ _ _ _ _ _ hb hl',g8];rfl
    have eN:L.map (·.1)=sB g:=by show(_++_:List AD).map _=_;rw[List.map_append,iy _ _ _ _ _ _ hb hl',gr];rfl
    have eS:L.filterMap (·.2.1)=dk g.bs st.heap (aQ g.bs.length)++eE g.rs vs:=by show(_++_:List AD).filterMap _=_;rw[List.filterMap_append,ll _ _ _ _ _ _ hb hl',jC _ _ _ _ hd]
    have hn:cg (L.map (·.1))=true:=by rw[eN];exact Ih
    have kg:=BO (ψ:=oX) hn;have hz:∀b,Z1 b→so Z1 oX st.heap.get (gP g.rs vs++gO g.bs st.heap (aQ g.bs.length)) b:=fun b hb=>.inl hb;have JD:=(uc Kt).2 st.heap;have g':Good (so Z1 oX st.heap.get (gP g.rs vs++gO g.bs st.heap (aQ g.bs.length))) (fC oX L) (ep L).get w1 w.heap.size (Own ψ0 (rK g x)):=by
     refine zd k.dE Kt hn eS fun e he=>?_;rcases ab6.1 he with he|he
     ·exact mU k.dE hz g.bs _ _ 2000 y2 hb (fun id b bM h1 h2=>.inr ⟨id,abL _ bM,h1,h2⟩) (fun s hs=>JD s (abM _ hs)) (fun e he=>kg e (abM _ he)) e he
     ·exact kE g.rs vs 3000 y1 hd (fun s hs=>JD s (abL _ hs)) e he
    obtain⟨GR,GI⟩:=jS _ _ _ hb;have O4:=uh (ids2:=aQ g.bs.length) (Z':=so Z1 oX st.heap.get (gP g.rs vs++gO g.bs st.heap (aQ g.bs.length))) (ψ':=fC oX L) (h':=(ep L).get) k.dE hz hb hl' (fun e he=>kg e (abM _ he)) g.rs vs 3000 y1 us hd (fun id b bM h1 h2=>.inr ⟨id,abM _ bM,h1,h2⟩) (fun e he=>kg e (abL _ he)) h2;refine⟨v,h1,v,so Z1 oX st.heap.get (gP g.rs vs++gO g.bs st.heap (aQ g.bs.length)),fC oX L,rfl,fun b hb=>.inl (k.gG b hb),fun b hb=>?_,⟨k.os,k.tape,k.output,k.size,k.block⟩,by rw[←eH];exact g',fun i hi=>?_,?_⟩
    ·rcases O3 hb with h4|⟨id,h4,h5⟩
     ·exact k.fj b h4
     ·exact .inr (k.dE.live id b h4 h5).2.symm
    ·obtain⟨o,ho⟩:=ln (hh:=st.heap) g.bs (aQ g.bs.length) (aQ g.bs.length) 2000 y2 GR (i,i) (Uk hi);rw[jB hn (List.mem_append_left _ ho)];obtain⟨j,h4,h5⟩:=It hi;exact k.fix i (by omega) (GI i hi)
    ·rw[←eH];have Tu:us.length=(aW g.rs (aQ g.bs.length) 2000 3000 y1).length:=O4.length.symm;rw[h3]
     match hE:aW g.rs (aQ g.bs.length) 2000 3000 y1,us,O4,Tu with
     |[],[],O4,_=>simp only[fH];simp only[aA];exact⟨#[],rfl,by simpa using O4⟩
     |[e1],[u],O4,_ =>
      simp only[au]at O4;obtain⟨u',jn,he,h4,_⟩:=O4
      cases he
      simpa[fH] using h4
     |e1::e2::er,u1::u2::ur,O4,_ =>simp only[fH,aA];exact⟨(u1::u2::ur).toArray,by simp,by simpa using O4⟩
   ·cases u7
  have reach:=sX V hm (b:=b) (cs:=cs) (fun sh c k x Z ψ a w h1 h2 h3=>Dg V hm u7 n sh c k x Z ψ a w h1 h2 h3) u7 fuel _ _ Z ψ0 a0 w hx ok0 tr0;obtain⟨a',w',todo,⟨hd,v,xu,hR⟩,hs⟩:=reach;rw[←abX]at hs;exact⟨.returned v,w',_,hR,hs,rfl,rfl,hd,rfl,fn,hf.1,xu⟩
 ·cases hx
end
theorem Kw(hX:∀f g u,Sg f=some g→g.x=some u→gI P (f%1000) u){G:(f:FuncId)→(g:aO)→Option (g.A→Option g.B)}{An:FuncId→Nat→Option Shape}(E9:∀t k,Eqs t=some k→mR P t k)(Rb:∀f g,Sg f=some g→jT P (f%1000))(hm:P.follows .mixedOrders=true) (hG:∀f g u x y,Sg f=some g→G f g=some u→u x=some y→GF P f g x y):∀(m:Nat) f g x y,Sg f=some g→Fn P Eqs Sg An G m f g x=some y→GF P f g x y
 |0,f,g,x,y,hs,hx=>by
  simp only[Fn]at hx
  split at hx
  ·rename_i u hu;exact hG f g u x y hs hu hx
  ·cases hx
 |m+1,f,g,x,y,hs,hx=>by
  simp only[Fn]at hx
  split at hx
  ·rename_i u hu;exact hG f g u x y hs hu hx
  ·exact Nr ⟨E9,fun f g x y h1 h2=>Kw hX E9 Rb hm hG m f g x y h1 h2,hX,Rb⟩ hm hx
end Go.Vs
namespace Go.Vs
abbrev FT:=(f:FuncId)→(g:aO)→g.A→Option g.B
variable {P:Program} {Eqs:TypeId→Option K} {Sg:FuncId→Option aO} {R:Type}
def wO(p:Nat→Prop):Prop:=∃m,∀m',m≤m'→p m'
theorem wO.now{p:Nat→Prop}(h:∀m,p m):wO p:=⟨0,fun m _=>h m⟩
theorem wO.and{p q r:Nat→Prop}(h:wO p)(k:wO q)(hr:∀m,p m→q m→r m):wO r:=by obtain⟨a,ha⟩:=h;obtain⟨b,hb⟩:=k;exact⟨max a b,fun m hm=>hr m (ha m (by omega)) (hb m (by omega))⟩
theorem wO.imp{p r:Nat→Prop}(h:wO p)(hr:∀m,p m→r m):wO r:=by obtain⟨a,ha⟩:=h;exact⟨a,fun m hm=>hr m (ha m hm)⟩
def To(A:Nat→FT)(L:FT):Prop:=∀f g x y,L f g x=some y→wO fun m=>A m f g x=some y
def ToK{α:Type}(A:Nat→α→Option R)(L:α→Option R):Prop:=∀x y,L x=some y→wO fun m=>A m x=some y
def ToJ(A:Nat→(sh:Shape)→List Item→sh.T→Option R)(L:(sh:Shape)→List Item→sh.T→Option R):Prop:=∀sh k x y,L sh k x=some y→wO fun m=>A m sh k x=some y
theorem Ul(h:Heap)(id:Nat)(f:FuncId)(vs:List AV):(∀F F':FT,jO Sg F h id f vs some=jO Sg F' h id f vs some) ∨ ∃ff g x,(∀F F':FT,F ff g x=F' ff g x→jO Sg F h id f vs some=jO Sg F' h id f vs some)∧∀F:FT,F ff g x=none→jO Sg F h id f vs some=none:=by
 unfold jO
 split
 ·simp_all
 rename_i g hg
 split
 ·simp_all
 split
 ·split
  ·split
   ·rename_i x b hx hb hp;refine .inr ⟨_,g,(x,b),fun F F' e=>by rw[e],fun F e=>by rw[e];rfl⟩
   simp_all
  ·split
   ·rename_i x b hx hb hp;refine .inr ⟨_,g,(x,b),fun F F' e=>by rw[e],fun F e=>by rw[e];rfl⟩
   simp_all
 simp_all
theorem YB{A:Nat→FT}{L:FT}(hA:To A L){h:Heap}{id:Nat}{f:FuncId}{vs:List AV}{e:bF}(he:jO Sg L h id f vs some=some e):wO fun m=>jO Sg (A m) h id f vs some=some e:=by
 rcases Ul (Sg:=Sg) h id f vs with k|⟨ff,g,x,k1,k2⟩
 ·exact .now fun m=>(k _ _).trans he
 ·cases hy:L ff g x with
  |none=>simp_all
  |some y=>exact(hA _ _ _ _ hy).imp fun m hm=>(k1 (A m) L (hm.trans hy.symm)).trans he
theorem Kx{A:Nat→FT}{L:FT}(hA:To A L){id:Nat}{h:Heap}{s:List (Nat×AV)}{o:Oper}{e:bF}(he:da P Eqs Sg L id h s o some=some e):wO fun m=>da P Eqs Sg (A m) id h s o some=some e:=by
 obtain⟨dst,op,type,pos,after,guard⟩:=o
 cases op with
 |call c =>
  obtain⟨callee,args,argTypes⟩:=c
  cases callee with
  |value f =>
   grind [da,YB]
  |builtin bi=>cases bi<;>exact .now fun m=>he
  |invoke _ _=>exact .now fun m=>he
 |unOp u _ _=>cases u<;>exact .now fun m=>he
 |makeFunc fn _ _=>cases fn<;>exact .now fun m=>he
 |makeMap _ r=>cases r<;>exact .now fun m=>he
 |next _ b=>cases b<;>exact .now fun m=>he
 |_=>exact .now fun m=>he
theorem wO.all{p:Nat→Nat→Prop}:∀(n:Nat),(∀j,j<n→wO (p j))→wO fun m=>∀j,j<n→p j m
 |0,_=>.now fun m j hj=>absurd hj (Nat.not_lt_zero _)
 |n+1,h=>(wO.all n fun j hj=>h j (by omega)).and (h n (by omega)) fun m h1 h2 j hj=>by
  grind
theorem Ns{h:Heap}{x:AV}{K:Nat→AV→Heap→Option R}{KL:AV→Heap→Option R}(hK:∀v h y,KL v h=some y→wO fun m=>K m v h=some y){r:R}(he:mh h x KL=some r):wO fun m=>mh h x (K m)=some r:=by
 unfold mh at he ⊢
 split at he
 ·rename_i id
  split at he
  ·rename_i kk vk p hg
   try simp only[hg]
   cases hp:p.2 with
   |nil =>simp_all
   |cons c l =>simp only[hp,List.isEmpty_cons,cond_false]at he ⊢;have h1:=pN he;refine(wO.all _ fun j hj=>?_).imp fun m hm=>ml (by simp) hm;simp_all
  ·cases he
 ·cases he
theorem Um{h:Heap}{x:AV}{want:Bool}{K:Nat→AV→Option R}{KL:AV→Option R}(hK:∀v y,KL v=some y→wO fun m=>K m v=some y){r:R}(he:wU h x want KL=some r):wO fun m=>wU h x want (K m)=some r:=by
 unfold wU at he ⊢
 split at he
 ·simp_all
 ·rename_i xs hv
  cases Ax:xs.isEmpty with
  |true =>simp only[Ax,cond_true]at he ⊢;have h1:=pN he;exact(wO.all _ fun j hj=>hK _ _ (h1 j hj)).imp fun m hm=>ml (by decide) hm
  |false =>simp_all
 ·cases he
theorem Dh{A:Nat→FT}{L:FT}(hA:To A L){rid:Nat}{draw:Bool}{ops:Array Oper}{b:Array Nat}{K:Nat→St→Option R}{KL:St→Option R}(hK:ToK K KL) :
  ∀(l:List (Nat×Oper)) (st:St) (r:R),bJ P Eqs Sg L rid draw ops b l st KL=some r→wO fun m=>bJ P Eqs Sg (A m) rid draw ops b l st (K m)=some r
 |[],st,r,he=>hK st r (by grind [bJ])
 |(i,o)::l,st,r,he=>by
  have ih:=Dh hA (rid:=rid) (draw:=draw) (ops:=ops) (b:=b) hK l;have run:∀st:St,(match (if draw then none else qD P (opId rid i) st o) with
    |some fk=>bJ P Eqs Sg L rid draw ops b l fk KL
    |none=>match (if draw then none else wT o) with
    |some x=>mh st.heap (ρ st.tmps x) fun v h=>bJ P Eqs Sg L rid draw ops b l (({ st with heap:=h }:St).put o.dst v) KL
    |none=>match (if draw then none else isNil P o) with
    |some (x,want)=>wU st.heap (ρ st.tmps x) want fun v=>bJ P Eqs Sg L rid draw ops b l (st.put o.dst v) KL
    |none=>if draw then da P Eqs Sg L (opId rid i) (iv (ahead rid (b.getD i 0) st.heap) (ij ops b i st.tmps o)) st.tmps o fun e =>
     if(ib true rid ops b i (b.getD i 0) (il (ij ops b i st.tmps o) (ahead rid (b.getD i 0) st.heap) e)&&mM (ij ops b i st.tmps o) e)=true then
      bJ P Eqs Sg L rid draw ops b l ({ st with heap:=match il (ij ops b i st.tmps o) (ahead rid (b.getD i 0) st.heap) e with | .wr _ h=>h|e=>e.h st.heap }.put o.dst e.v) KL else none
     else da P Eqs Sg L (opId rid i) st.heap st.tmps o fun e =>
     if ib false rid ops b i (2 ^ i-1) e then bJ P Eqs Sg L rid draw ops b l ({ st with heap:=match e with | .wr _ h=>h|e=>e.h st.heap }.put o.dst e.v) KL else none)=some r →
    wO fun m=>(match (if draw then none else qD P (opId rid i) st o) with
    |some fk=>bJ P Eqs Sg (A m) rid draw ops b l fk (K m)
    |none=>match (if draw then none else wT o) with
    |some x=>mh st.heap (ρ st.tmps x) fun v h=>bJ P Eqs Sg (A m) rid draw ops b l (({ st with heap:=h }:St).put o.dst v) (K m)
    |none=>match (if draw then none else isNil P o) with
    |some (x,want)=>wU st.heap (ρ st.tmps x) want fun v=>bJ P Eqs Sg (A m) rid draw ops b l (st.put o.dst v) (K m)
    |none=>if draw then da P Eqs Sg (A m) (opId rid i) (iv (ahead rid (b.getD i 0) st.heap) (ij ops b i st.tmps o)) st.tmps o fun e =>
     if(ib true rid ops b i (b.getD i 0) (il (ij ops b i st.tmps o) (ahead rid (b.getD i 0) st.heap) e)&&mM (ij ops b i st.tmps o) e)=true then
      bJ P Eqs Sg (A m) rid draw ops b l ({ st with heap:=match il (ij ops b i st.tmps o) (ahead rid (b.getD i 0) st.heap) e with | .wr _ h=>h|e=>e.h st.heap }.put o.dst e.v) (K m) else none
     else da P Eqs Sg (A m) (opId rid i) st.heap st.tmps o fun e =>
     if ib false rid ops b i (2 ^ i-1) e then bJ P Eqs Sg (A m) rid draw ops b l ({ st with heap:=match e with | .wr _ h=>h|e=>e.h st.heap }.put o.dst e.v) (K m) else none)=some r:=by
   intro st h
   split at h
   ·simp_all
   rename_i qW
   split at h
   ·rename_i x Rm
    try simp only[qW,Rm]
    exact Ns (fun v h y hy=>ih _ y hy) h
   rename_i Rm
   split at h
   ·rename_i x want hnl
    try simp only[qW,Rm,hnl]
    exact Um (fun v y hy=>ih _ y hy) h
   rename_i hnl
   try simp only[qW,Rm,hnl]
   cases draw with
   |true =>
    simp only[if_true]at h ⊢;rw[mB]at h;obtain⟨e,h1,h2⟩:=ado.1 h;by_cases hc:(ib true rid ops b i (b.getD i 0) (il (ij ops b i st.tmps o) (ahead rid (b.getD i 0) st.heap) e)&&mM (ij ops b i st.tmps o) e)=true
    ·rw[if_pos hc]at h2;refine(Kx hA h1).and (ih _ r h2) fun m h3 h4=>?_;rw[mB,h3,Option.bind_some,if_pos hc];exact h4
    simp_all
   |false =>
    simp only[Bool.false_eq_true,if_false]at h ⊢;rw[mB]at h;obtain⟨e,h1,h2⟩:=ado.1 h;by_cases hc:ib false rid ops b i (2 ^ i-1) e=true
    ·rw[if_pos hc]at h2;refine(Kx hA h1).and (ih _ r h2) fun m h3 h4=>?_;rw[mB,h3,Option.bind_some,if_pos hc];exact h4
    simp_all
  simp only[bJ]at he ⊢
  split at he
  ·rename_i hg
   try simp only[hg]
   exact run _ he
  ·rename_i j want hg
   try simp only[hg]
   split at he
   ·cases he
   ·rename_i d hd
    try simp only[hd]
    split at he
    ·rename_i t ht
     try simp only[ht]
     cases t<;>cases want<;>simp only[cond_true,cond_false,if_true,if_false,Bool.false_eq_true]at he ⊢<;>first|exact run _ he|grind
    ·grind
    ·cases he
theorem Fy{A:Nat→FT}{L:FT}(hA:To A L){n rid:Nat}{ops:Array Oper}{draw:Bool}{K:Nat→St→Option R}{KL:St→Option R}(hK:ToK K KL){st:St}{r:R} (he:jm P Eqs Sg L n rid ops draw st KL=some r):wO fun m=>jm P Eqs Sg (A m) n rid ops draw st (K m)=some r:=by
 unfold jm at he ⊢;by_cases hc:((ops.all fun o=>jl n o)&&(!draw || (wS ops (if draw then Region.before ops else #[])&&(Cq ops (if draw then Region.before ops else #[])&&cg (ops.toList.filterMap (·.dst)))))&&decide (ops.size≤128))=true
 ·dsimp only at he ⊢
  rw[if_pos hc]at he;refine(Dh hA hK _ _ r he).imp fun m hm=>?_;simp_all
 simp_all
theorem hM{A:Nat→FT}{L:FT}(hA:To A L){n:Nat}{ann:Nat→Option Shape}{J:Nat→(sh:Shape)→List Item→sh.T→Option R}{JL:(sh:Shape)→List Item→sh.T→Option R}(hJ:ToJ J JL){ret:St→Option R} :
  ∀(fu:Nat) (items:List Item) (st:St) (r:R),aF P Eqs Sg L n ann JL ret fu items st=some r→wO fun m=>aF P Eqs Sg (A m) n ann (J m) ret fu items st=some r
 |0,items,st,r,he=>by grind [aF]
 |fu+1,[],st,r,he=>.now fun m=>by grind [aF]
 |fu+1,it::Tb,st,r,he=>by
  have ih:=hM hA (n:=n) (ann:=ann) hJ (ret:=ret) fu
  cases it with
  |inBlock id=>grind [aF]
  |inScope c=>grind [aF]
  |inLoop c =>
   simp only[aF]at he ⊢
   split at he
   ·cases he
   ·rename_i sh hsh
    try simp only[hsh]
    split at he
    ·rename_i x hx
     try simp only[hx]
     exact hJ _ _ _ _ he
    ·cases he
  |code c =>
   cases c with
   |cond c x y =>
    simp only[aF]at he ⊢
    grind
   |exit id =>
    grind [aF]
   |ret=>exact .now fun m=>by grind [aF]
   |region id ops draw =>simp only[aF]at he ⊢;exact Fy hA (K:=fun m fk=>aF P Eqs Sg (A m) n ann (J m) ret fu Tb fk) (fun st y h=>ih Tb st y h) he
   |skip=>grind [aF]
   |label l=>grind [aF]
   |seq x y=>grind [aF]
   |block id c=>grind [aF]
   |scope c=>grind [aF]
   |loop c=>grind [aF]
   |_=>grind [aF]
  |_=>grind [aF]
section
variable {An:FuncId→Nat→Option Shape} {G:(f:FuncId)→(g:aO)→Option (g.A→Option g.B)}
def FLe(F F':FT):Prop:=∀f g x y,F f g x=some y→F' f g x=some y
theorem FLe.to{F F':FT}(h:FLe F F'):To (fun _=>F') F:=fun f g x y hy=>.now fun _=>h f g x y hy
theorem wO.get{p:Prop}(h:wO fun _=>p):p:=by obtain⟨m,hm⟩:=h;exact hm m (acf _)
theorem pP{F F':FT}(h:FLe F F'){f:FuncId}{g:aO}{fn:Func}:∀(n n':Nat) (sh:Shape) (k:List Item) (x:sh.T) (y:g.B),n≤n'→nM P Eqs Sg An F f g fn n sh k x=some y→nM P Eqs Sg An F' f g fn n' sh k x=some y
 |0,_,_,_,_,_,_,hx=>by grind [nM]
 |n+1,0,_,_,_,_,hn,_=>by omega
 |n+1,n'+1,sh,k,x,y,hn,hx=>by
  cases k with
  |nil=>grind [nM]
  |cons it k =>
   cases it with
   |inLoop c =>simp only[nM]at hx ⊢;exact(hM h.to (J:=fun _=>nM P Eqs Sg An F' f g fn n') (JL:=nM P Eqs Sg An F f g fn n) (fun sh k x y hy=>.now fun _=>pP h n n' sh k x y (by omega) hy) _ _ _ _ hx).get
   |_=>grind [nM]
theorem Rt{F F':FT}(h:FLe F F'){f:FuncId}{g:aO}{n n':Nat}{x:g.A}{y:g.B}(hn:n≤n')(hx:MT P Eqs Sg An F f g n x=some y):MT P Eqs Sg An F' f g n' x=some y:=by
 unfold MT at hx ⊢
 split at hx
 ·cases hx
 ·rename_i fn c hb
  try simp only[hb]
  split at hx
  ·rename_i hc;simp only[if_pos hc];exact(hM h.to (J:=fun _=>nM P Eqs Sg An F' f g fn n') (JL:=nM P Eqs Sg An F f g fn n) (fun sh k x y hy=>.now fun _=>pP h n n' sh k x y hn hy) _ _ _ _ hx).get
  ·cases hx
theorem BV:∀m,FLe (Fn P Eqs Sg An G m) (Fn P Eqs Sg An G (m+1))
 |0,f,g,x,y,hx=>by
  grind [Fn]
 |m+1,f,g,x,y,hx=>by
  rw[Fn]at hx ⊢
  split at hx
  ·omega
  ·rename_i hu
   try simp only[hu]
   exact Rt (BV m) (Nat.le_succ m) hx
theorem BW{m m':Nat}(h:m≤m'):FLe (Fn P Eqs Sg An G m) (Fn P Eqs Sg An G m'):=by
 induction h with
 |refl=>exact fun _ _ _ _ h=>h
 |step _ ih=>exact fun f g x y hx=>BV _ f g x y (ih f g x y hx)
variable (P Eqs Sg An G) in
open Classical in
noncomputable def Fix:FT:=fun f g x=>if h:∃m y,Fn P Eqs Sg An G m f g x=some y then some (Classical.choose (Classical.choose_spec h)) else none
theorem Iu:To (Fn P Eqs Sg An G) (Fix P Eqs Sg An G):=fun f g x y hy=>by
 unfold Fix at hy
 split at hy
 ·rename_i h
  cases hy
  exact⟨Classical.choose h,fun m' hm=>BW hm _ _ _ _ (Classical.choose_spec (Classical.choose_spec h))⟩
 ·cases hy
theorem Un{m:Nat}{f:FuncId}{g:aO}{x:g.A}{y:g.B}(h:Fn P Eqs Sg An G m f g x=some y):Fix P Eqs Sg An G f g x=some y:=by
 have he:∃m y,Fn P Eqs Sg An G m f g x=some y:=⟨m,y,h⟩
 cases hy:Fix P Eqs Sg An G f g x with
 |none=>simp_all [Fix,dif_pos]
 |some y' =>obtain⟨m1,h1⟩:=Iu f g x y' hy;have h2:=h1 (max m m1) (by omega);have h3:=BW (show m≤max m m1 by omega) f g x y h;simp_all
variable (P Eqs Sg An G) in
open Classical in
noncomputable def Lp(f:FuncId)(g:aO)(fn:Func)(sh:Shape)(k:List Item)(x:sh.T):Option g.B :=if h:∃m y,nM P Eqs Sg An (Fn P Eqs Sg An G m) f g fn m sh k x=some y then some (Classical.choose (Classical.choose_spec h)) else none
theorem Uo{f:FuncId}{g:aO}{fn:Func}:ToJ (fun m=>nM P Eqs Sg An (Fn P Eqs Sg An G m) f g fn m) (Lp P Eqs Sg An G f g fn):=fun sh k x y hy=>by
 unfold Lp at hy
 split at hy
 ·rename_i h
  cases hy
  exact⟨Classical.choose h,fun m' hm=>pP (BW hm) _ _ _ _ _ _ hm (Classical.choose_spec (Classical.choose_spec h))⟩
 ·cases hy
theorem aeA{m:Nat}{f:FuncId}{g:aO}{fn:Func}{sh:Shape}{k:List Item}{x:sh.T}{y:g.B}(h:nM P Eqs Sg An (Fn P Eqs Sg An G m) f g fn m sh k x=some y):Lp P Eqs Sg An G f g fn sh k x=some y:=by
 have he:∃m y,nM P Eqs Sg An (Fn P Eqs Sg An G m) f g fn m sh k x=some y:=⟨m,y,h⟩
 cases hy:Lp P Eqs Sg An G f g fn sh k x with
 |none=>simp_all [Lp,dif_pos]
 |some y' =>obtain⟨m1,h1⟩:=Uo sh k x y' hy;have h2:=h1 (max m m1) (by omega);have h3:=pP (BW (show m≤max m m1 by omega)) m (max m m1) sh k x y (by omega) h;simp_all
theorem O5{f:FuncId}{g:aO}{x:g.A}{y:g.B}{fn:Func}{c:Code}(hG:G f g=none)(hb:body P (f%1000)=some (fn,c))(hc:(decide (g.ps.length≤fn.ntmps)&&decide (g.bs.length≤8))=true) (h:aF P Eqs Sg (Fix P Eqs Sg An G) fn.ntmps (An f) (Lp P Eqs Sg An G f g fn) (sL P g fn) fuel [.code c] (entry g x)=some y):Fix P Eqs Sg An G f g x=some y:=by obtain⟨m,hm⟩:=hM (Iu (P:=P) (Eqs:=Eqs) (Sg:=Sg) (An:=An) (G:=G)) (Uo (f:=f) (g:=g) (fn:=fn)) _ _ _ _ h;refine Un (m:=m+1) ?_;simp_all [Fn,MT,if_pos,Nat.le_refl]
theorem GS{f:FuncId}{g:aO}{x:g.A}{y:g.B}{u:g.A→Option g.B}(hG:G f g=some u)(h:u x=some y):Fix P Eqs Sg An G f g x=some y:=by
 refine Un (m:=0) ?_
 grind [Fn]
theorem Up{f:FuncId}{g:aO}{fn:Func}{sh:Shape}{c:Code}{k:List Item}{x:sh.T}{y:g.B} (h:aF P Eqs Sg (Fix P Eqs Sg An G) fn.ntmps (An f) (Lp P Eqs Sg An G f g fn) (sL P g fn) fuel (.code c::.inLoop c::k) (aw sh x)=some y):Lp P Eqs Sg An G f g fn sh (.inLoop c::k) x=some y:=by obtain⟨m,hm⟩:=hM (Iu (P:=P) (Eqs:=Eqs) (Sg:=Sg) (An:=An) (G:=G)) (Uo (f:=f) (g:=g) (fn:=fn)) _ _ _ _ h;refine aeA (m:=m+1) ?_;simp only[nM];refine(hM (L:=Fn P Eqs Sg An G m) (FLe.to (BV m)) (J:=fun _=>nM P Eqs Sg An (Fn P Eqs Sg An G (m+1)) f g fn m) (JL:=nM P Eqs Sg An (Fn P Eqs Sg An G m) f g fn m) (fun sh k x y hy=>.now fun _=>pP (BV m) m m sh k x y (acf _) hy) _ _ _ _ (hm m (acf _))).get
theorem BX(hX:∀f g u,Sg f=some g→g.x=some u→gI P (f%1000) u)(E9:∀t k,Eqs t=some k→mR P t k)(Rb:∀f g,Sg f=some g→jT P (f%1000))(hm:P.follows .mixedOrders=true) (hG:∀f g u x y,Sg f=some g→G f g=some u→u x=some y→GF P f g x y) {f:FuncId} {g:aO} {x:g.A} {y:g.B} (hs:Sg f=some g) (h:Fix P Eqs Sg An G f g x=some y):GF P f g x y:=by obtain⟨m,hm'⟩:=Iu f g x y h;exact Kw hX E9 Rb hm hG m f g x y hs (hm' m (acf _))
end
end Go.Vs
namespace Go.Vs
open Go.Proofs
abbrev ab:=((Int×Int)×Int)
abbrev ID:=(Int×Int)
abbrev ai:=(ID×((List ab)×(ByteArray×Int)))
abbrev ag:=(ID×(ByteArray×Int))
abbrev ak:=((List ai)×(List ag))
abbrev ax:=(ab×ab)
abbrev StateT:=(ak×(List ax))
abbrev rN:=(ID×ab)
abbrev br:=(Int×(ID×(ID×(ID×(rN×(rN×(Bool×(ByteArray×Int))))))))
abbrev aX:=((List ai)×((List ag)×((List ax)×Unit)))
abbrev lI{α:Type}(l:List α):Int:=((l.length:Nat):Int)
abbrev wI(n:Int):Int:=IntKind.wrap .i64 n
abbrev OI:ID:=(0,0)
abbrev OD:ab:=(OI,0)
abbrev OC:rN:=(OI,OD)
abbrev OB:ByteArray:=⟨#[]⟩
abbrev OS:StateT:=(([],[]),[])
abbrev OW:aX:=([],([],([],())))
abbrev k13:K:=(.pair .str (.int .u64))
abbrev fZ:K:=(.pair (.int .i64) (.int .i64))
abbrev k68:K:=(.pair .str (.pair (.int .i64) .bool))
abbrev bj:K:=(.pair fZ (.int .i64))
abbrev k7:K:=(.pair (.int .i64) (.pair (.int .i64) (.pair .bool (.int .u8))))
abbrev dw:K:=(.pair fZ (.pair .str (.int .i64)))
abbrev Uq:K:=(.pair fZ bj)
abbrev cC:K:=(.pair bj bj)
abbrev cV:K:=(.pair fZ (.pair (.sl bj) (.pair .str (.int .i64))))
abbrev dK:K:=(.pair (.sl cV) (.sl dw))
abbrev lW:K:=(.pair dK (.sl cC))
abbrev sZ:K:=(.pair (.int .i64) (.pair fZ (.pair fZ (.pair fZ (.pair Uq (.pair Uq (.pair .bool (.pair .str (.int .i64)))))))))
abbrev nj:K:=(.one (.sl sZ))
def qY(xs:List ai)(ys:List ag):Bool:=decide (xs.length≤50000000)&&(decide (ys.length≤50000000)&&xs.all fun v=>decide (v.2.1.length≤50000000))
def Ix(h:Heap)(id:Nat):List AV→Option (Bool×bF)
 |[.agg [.bN a,.bN b]]=>match eT h (.row 38 cV) (.bN a),eT h (.row 84 dw) (.bN b) with
  |some xs,some ys=>if a=b then none else some (qY xs ys,.new (.agg [.bN (id+128),.bN (id+129)]) [(id+128,.own (.row 38 cV) xs),(id+129,.own (.row 84 dw) ys)])
  |_,_=>none
 |_=>none
abbrev ael(a:List PK)(b:List RK):aO:={ ps:=a,bs:=[],rs:=b }
abbrev aeo:K:=.int .i64
def Ur:=ael [.val lW,.val sZ] [.val lW,.val aeo]
def Ky:=ael [.val lW,.val lW] [.val .bool]
def sd:=ael [.val dK,.val fZ] [.val cV,.val .bool]
def Di:=ael [.val fZ] [.val .bool]
def wi:=ael [.val dK,.val bj] [.val fZ,.val .bool]
def Br:=ael [.val dK,.val fZ] [.val dw,.val .bool]
def Kz:=ael [.val dK,.val bj] [.val (.sl bj)]
def Fz:=ael [.val bj] [.val bj]
def s5:=ael [.val (.sl bj),.val bj] [.val aeo]
def Ru:=ael [.val (.sl bj),.val bj] [.val bj,.val .bool]
def Dk:=ael [.val dK,.val dK] [.val .bool]
def Iy:=ael [.val .str] [.val .bool]
def Rv:=ael [.val aeo] [.val .bool]
def Us:=ael [.val lW,.val nj] [.val lW,.val aeo]
def KA:=ael [.val dK] [.own (.row 36 (.sl bj))]
def KB:=ael [.val dK] [.val aeo]
def KC:=ael [.val lW,.val nj] [.val lW,.val aeo]
def KD:=ael [.val lW,.val nj] [.val lW]
def Nt:=ael [.val lW,.val nj] [.val lW]
def FA:=ael [.val dK] [.agg [.own (.row 38 cV),.own (.row 84 dw)]]
def KE:=ael [.val nj] [.val aeo]
def Ut:=ael [.val sZ] [.val aeo]
def KF:=ael [.val lW,.val (.sl sZ)] [.val lW,.val aeo]
def Rx:=ael [.val sZ] [.val aeo]
def Iz:=ael [.val dK,.val cV] [.val dK]
def qZ:=ael [.val dK,.val fZ,.val fZ] [.val dK]
def Uu:=ael [.val lW,.val sZ] [.val lW,.val aeo]
def Uv:=ael [.val lW,.val sZ] [.val lW,.val aeo]
def Uw:=ael [.val lW,.val sZ] [.val lW,.val aeo]
def Bu:=ael [.val lW,.val sZ] [.val lW,.val aeo]
def Dl:=ael [.val lW,.val sZ] [.val lW,.val aeo]
def IA:=ael [.val (.sl cC),.val (.sl cC)] [.val .bool]
def Ry:=ael [.val dK,.val bj] [.val bj,.val .bool]
def FB:=ael [.val dK,.val fZ] [.val aeo]
def u9:=ael [.val dK] [.own (.row 3 aeo)]
def KG:=ael [.val (.sl bj),.val (.sl bj)] [.val .bool]
def IB:=ael [.val nj] [.val aeo]
def IC:=ael [.val dK] [.own (.row 40 bj)]
def IE:=ael [.val dK] [.agg [.own (.row 38 cV),.own (.row 84 dw)]]
def KH:=ael [.val (.sl cC)] [.own (.row 42 cC)]
def Rz:=ael [.val bj,.val bj] [.val aeo]
def KI:=ael [.val dK] [.val aeo]
def Ux:=ael [.val sZ] [.val sZ,.val aeo]
def IF:aO:={ ps:=[.ref,.val sZ],bs:=[.box 128 [.own (.row 38 cV),.own (.row 84 dw),.val (.sl cC)]],rs:=[.val aeo] }
def RA:=ael [.val sZ] [.val sZ]
def RB:=ael [.val Uq] [.val .bool]
def KJ:=ael [.val fZ,.val fZ] [.val aeo]
def RC:=ael [.val lW,.val Uq] [.val Uq,.val aeo]
def Bv:=ael [.val dK,.val dw] [.val dK]
def Bw:=ael [.val dK,.val Uq,.val bj] [.val dK]
def Bx:=ael [.val (.sl cC),.val cC] [.val (.sl cC)]
def RD:=ael [.val dK,.val bj] [.val bj]
def RE:=ael [.val dK,.val bj] [.val dK]
def KK:=ael [.val dK,.val bj,.val bj] [.val dK]
def sf:=ael [.val (.sl bj)] [.own (.row 40 bj)]
def Uy:=ael [.val dK,.val bj] [.val bj,.val .bool]
def RF:=ael [.val (.sl cV)] [.own (.row 38 cV)]
def RG:=ael [.val (.sl dw)] [.own (.row 84 dw)]
def By:=ael [.val (.sl bj)] [.own (.row 40 bj)]
def IG:=ael [.val dK] [.val aeo,.val aeo,.val aeo,.val aeo]
def q6:=ael [.val fZ] [.val .bool]
def FC:=ael [.val Uq] [.val .bool]
def xw:=ael [.val .str] [.val .bool]
def IH:=ael [.val aeo] [.val .bool]
def KM:aO:={ ps:=[.ref,.val cV],bs:=[.box 128 [.own (.row 38 cV),.own (.row 84 dw),.val (.sl cC)]],rs:=[.val aeo] }
def Uz:aO:={ ps:=[.ref,.val sZ],bs:=[.box 128 [.own (.row 38 cV),.own (.row 84 dw),.val (.sl cC)]],rs:=[.val aeo] }
def q7:aO:={ ps:=[.ref,.val sZ],bs:=[.box 128 [.own (.row 38 cV),.own (.row 84 dw),.val (.sl cC)]],rs:=[.val aeo] }
def Dm:aO:={ ps:=[.ref,.val sZ],bs:=[.box 128 [.own (.row 38 cV),.own (.row 84 dw),.val (.sl cC)]],rs:=[.val aeo] }
def Bz:aO:={ ps:=[.ref,.val sZ],bs:=[.box 128 [.own (.row 38 cV),.own (.row 84 dw),.val (.sl cC)]],rs:=[.val aeo] }
def s6:aO:={ ps:=[.ref,.val sZ],bs:=[.box 128 [.own (.row 38 cV),.own (.row 84 dw),.val (.sl cC)]],rs:=[.val aeo] }
def UA:aO:={ ps:=[.ref,.val sZ],bs:=[.box 128 [.own (.row 38 cV),.own (.row 84 dw),.val (.sl cC)]],rs:=[.val aeo] }
def UB:=ael [.val bj] [.val .bool]
def KN:=ael [.val lW,.val bj] [.val bj]
def FD:=ael [.val dK,.val fZ,.val (.sl bj)] [.val dK]
def AQ:=ael [.val (.sl bj),.val bj,.val bj] [.own (.row 40 bj)]
def vB:=ael [.val (.sl cC),.val bj] [.val bj,.val .bool]
def AR:=ael [.val (.sl bj),.val bj] [.own (.row 40 bj)]
def KO:=ael [.val (.sl bj),.val bj,.val bj] [.own (.row 40 bj)]
def KP:=ael [.val (.sl bj),.val bj] [.val bj,.val .bool]
def Dn:=ael [.val bj] [.val .bool]
def rO:aO:={ ps:=[.ref,.val fZ],bs:=[.box 128 [.own (.row 38 cV),.own (.row 84 dw),.val (.sl cC)]],rs:=[.val aeo,.val .bool] }
def aar:aO:={ ps:=[],bs:=[],rs:=[],x:=some (Tl 38 cV) }
def aas:aO:={ ps:=[],bs:=[],rs:=[],x:=some (Ya 38 cV) }
def AS:aO:={ ps:=[.ref,.val fZ],bs:=[.box 128 [.own (.row 38 cV),.own (.row 84 dw),.val (.sl cC)]],rs:=[.val aeo] }
def Dp:=ael [.val fZ] [.val bj,.val bj]
def KQ:=ael [.val lW,.val Uq] [.val Uq,.val aeo]
def Dq:=ael [.val (.sl bj),.val bj,.val bj] [.own (.row 40 bj)]
def AT:=ael [.val dK] [.val .bool]
def oo:aO:={ ps:=[.ref,.val fZ],bs:=[.box 128 [.own (.row 38 cV),.own (.row 84 dw),.val (.sl cC)]],rs:=[.val aeo,.val .bool] }
def Dt:aO:={ ps:=[.ref,.val bj,.val bj],bs:=[.box 128 [.own (.row 38 cV),.own (.row 84 dw),.val (.sl cC)]],rs:=[] }
def Du:aO:={ ps:=[.ref,.val bj],bs:=[.box 128 [.own (.row 38 cV),.own (.row 84 dw),.val (.sl cC)]],rs:=[.val bj] }
def nk:aO:={ ps:=[.ref,.val bj],bs:=[.box 128 [.own (.row 38 cV),.own (.row 84 dw),.val (.sl cC)]],rs:=[.fz 0 [(0,5,0)]] }
def KR:=ael [.val (.sl bj),.val bj] [.own (.row 40 bj)]
def aat:aO:={ ps:=[],bs:=[],rs:=[],x:=some (Ya 84 dw) }
def vC:=ael [.val (.sl bj),.val bj,.val bj] [.own (.row 40 bj)]
def pQ:=ael [.val bj] [.val bj]
def rP:=ael [.val (.sl bj)] [.own (.row 40 bj)]
def KS:aO:={ ps:=[.ref,.val sZ],bs:=[.box 128 [.own (.row 38 cV),.own (.row 84 dw),.val (.sl cC)]],rs:=[.fz 0 [(0,5,3),(1,4,2)],.fz 0 [(0,5,4),(1,4,3)]] }
def GU:=ael [.val cV,.val fZ] [.val aeo]
def AU:=ael [.val fZ,.val fZ] [.val aeo]
def aau:aO:={ ps:=[],bs:=[],rs:=[],x:=some (Tl 84 dw) }
def KT:=ael [.val dK,.val fZ] [.val cV,.val .bool]
def AW:=ael [.val lW,.val bj] [.val bj]
def xx:=ael [.val (.sl bj),.val bj] [.val .bool]
def nm:=ael [.val (.sl bj),.val bj] [.val aeo]
def pR:=ael [.val (.sl (.sl bj))] [.own (.row 40 bj)]
def KU:=ael [.val dK] [.val aeo]
def GW:=ael [.val dw,.val fZ] [.val aeo]
def KV:=ael [.val (.sl cC),.val cC] [.own (.row 42 cC)]
def GX:=ael [.val (.sl bj),.val bj] [.val bj,.val .bool]
def AX:=ael [.val bj,.val bj] [.val aeo]
def pS:=ael [.val (.sl (.sl bj))] [.own (.row 40 bj)]
def xy:=ael [.val (.sl aeo)] [.val aeo]
def Dv:=ael [.val aeo,.val aeo] [.val aeo]
def Dx:=ael [.val cV] [.val fZ]
def xz:=ael [.val dK,.val bj] [.val fZ,.val .bool]
def KW:=ael [.val (.sl cC),.val bj] [.val bj,.val .bool]
def KX:=ael [.val dK] [.val aeo,.val aeo,.val aeo,.val aeo]
def GY:=ael [.val cC,.val bj] [.val aeo]
def aav:aO:={ ps:=[],bs:=[],rs:=[],x:=some (Tl 42 cC) }
def Dy:=ael [.val (.sl bj),.val bj,.val aeo] [.val bj,.val .bool]
def aaw:aO:={ ps:=[],bs:=[],rs:=[],x:=some (Tn 40 bj) }
def Dz:=ael [.val aeo] [.val .bool]
def KY:aO:={ ps:=[.val cC,.ref],bs:=[.box 40 [.val aeo,.val aeo,.val aeo]],rs:=[.val .bool] }
def KZ:=ael [.val cV] [.val .bool]
def AY:=ael [.val dK] [.own (.row 36 (.sl bj))]
def AZ:=ael [.val dK] [.val aeo]
def xC:=ael [.val dK] [.own (.row 40 bj)]
def aax:=ael [.val dK] [.own (.row 163 (.sl fZ))]
def GZ:=ael [.val dK,.val bj] [.val bj,.val .bool]
def iE:=ael [.val dK] [.own (.row 3 aeo)]
def A1:=ael [.val dK,.val bj] [.val bj,.val .bool]
def K0:aO:={ ps:=[.own,.val aeo,.val aeo],bs:=[.own (.row 3 aeo)],rs:=[] }
def s8:aO:={ ps:=[.own,.val aeo],bs:=[.own (.row 3 aeo)],rs:=[.val aeo] }
def K1:=ael [.val (.sl bj),.val bj] [.val bj,.val .bool]
def jV:=ael [.val (.sl cV),.val fZ,.wN 188 0] [.val aeo,.val .bool]
def jW:=ael [.val (.sl dw),.val fZ,.wN 198 0] [.val aeo,.val .bool]
def lE:=ael [.val (.sl bj),.wN 73 0] [.val bj]
def lF:=ael [.val (.sl cV),.wN 135 0,.val fZ] [.val cV,.val .bool]
def jX:=ael [.val (.sl cC),.val bj,.wN 219 0] [.val aeo,.val .bool]
def jY:aO:={ ps:=[.val (.sl cC),.wN 231 1],bs:=[.box 40 [.val bj]],rs:=[.val aeo] }
def lG:=ael [.val (.sl cV),.wN 206 0] [.val aeo]
def K2:aO:={ ps:=[],bs:=[],rs:=[],x:=some Ix }
def UC:=ael [] []
abbrev k98:K:=(.pair nj fZ)
abbrev O6:K:=(.pair lW (.pair aeo (.sl nj)))
abbrev eU:=(StateT×(Int×((List (List br))×Unit)))
abbrev XR:=(((List Int)×(Int×Unit))×Unit)
abbrev Q48:=((Int×(StateT×(Int×Unit)))×Unit)
abbrev Q49:=((Int×((List Int)×(Bool×Unit)))×Unit)
abbrev Q50:=((Int×Unit)×(((List Int)×(Bool×Unit))×Unit))
abbrev Q51:=((ID×((List Int)×(Bool×Unit)))×Unit)
abbrev XS:=(((List Int)×Unit)×Unit)
abbrev Q44:=((Bool×Unit)×((Unit×Unit)×Unit))
abbrev Q45:=(((List Bool)×Unit)×Unit)
abbrev Q46:=((Int×Unit)×((Unit×Unit)×Unit))
abbrev Q40:=((List br)×ID)
abbrev Q41:=(((List (List br))×(Int×Unit))×(eU×Unit))
abbrev Q42:=((StateT×Unit)×(eU×Unit))
abbrev Q0:=((Bool×Unit)×Unit)
abbrev Q1:=((StateT×(Int×Unit))×Unit)
abbrev Q2:=((Int×Unit)×Unit)
abbrev Q3:=(((List br)×Unit)×Unit)
abbrev Q4:=((StateT×Unit)×Unit)
abbrev Q5:=((ak×Unit)×Unit)
abbrev Q6:=(((List ab)×Unit)×Unit)
abbrev Q7:=((ai×(Bool×Unit))×Unit)
abbrev Q8:=(List br)
abbrev Q9:=((Int×Unit)×(eU×Unit))
abbrev Q10:=((ag×(Bool×Unit))×Unit)
abbrev II:=((ab×Unit)×Unit)
abbrev O7:=((ab×(Bool×Unit))×Unit)
abbrev XT:=((ID×(Bool×Unit))×Unit)
abbrev Nu:=((Int×(Bool×Unit))×(aX×Unit))
abbrev Q15:=((StateT×(br×Unit))×Unit)
abbrev Q16:=((StateT×((List br)×Unit))×Unit)
abbrev Q17:=(((List (List br))×Unit)×Unit)
abbrev YC:=(((List ax)×Unit)×Unit)
abbrev UD:=((Int×Unit)×(aX×Unit))
abbrev YD:=((ak×(ab×Unit))×Unit)
abbrev YE:=(((List ab)×(ab×Unit))×Unit)
abbrev Q22:=((br×Unit)×(aX×Unit))
abbrev Q23:=((StateT×Unit)×((List (List br))×Unit))
abbrev Q24:=(((List br)×(Int×Unit))×Unit)
abbrev Q25:=(((List (List ab))×Unit)×Unit)
abbrev Q26:=((((List ai)×((List ag)×Unit))×Unit)×Unit)
abbrev Q27:=((rN×Unit)×Unit)
abbrev Q28:=((Int×(Int×Unit))×(eU×Unit))
abbrev Q29:=((StateT×((List (List br))×Unit))×Unit)
abbrev Q30:=((ak×(ID×Unit))×Unit)
abbrev Q31:=(((Option ((Fin 1)×Nat))×Unit)×(aX×Unit))
abbrev Q32:=(Unit×(eU×Unit))
abbrev Q33:=((ab×(ab×Unit))×Unit)
abbrev Q34:=(((List ab)×(ab×(ab×Unit)))×Unit)
abbrev Q35:=((Int×Unit)×((List Int)×Unit))
abbrev Q36:=((StateT×(Int×Unit))×(eU×Unit))
abbrev Q37:=(((List Bool)×Unit)×((List (List br))×Unit))
abbrev Q38:=((Bool×(Int×Unit))×(((StateT×Unit)×((br×Unit)×(aX×(((List ai)×((List ag)×Unit))×Unit))))×Unit))
abbrev Q39:=((Int×Unit)×((aX×((ab×Unit)×((ab×Unit)×((ab×Unit)×Unit))))×Unit))
def abZ(_:Heap)(id:Nat):List AV→Option (Bool×bF)
 |[]=>some (true,.new (.ref (id+128) 0 0 0) [(id+128,.box 94 (enc O6 (ki O6)))])
 |_=>none
def Nv(h:Heap)(_:Nat):List AV→Option (Bool×bF)
 |[.ref i 0 0 0]=>match Cj h i 94 with
  |some cs=>match dz O6 cs with
   |some x=>some (true,.val (.int .i64 x.2.1))
   |none=>none
  |none=>none
 |_=>none
def aod(h:Heap)(id:Nat):List AV→Option (Bool×bF)
 |[.ref i 0 0 0]=>match Cj h i 94 with
  |some cs=>match dz O6 cs with
   |some x=>some (true,.new (.ref (id+128) 0 0 0) [(id+128,.box 94 (enc O6 x))])
   |none=>none
  |none=>none
 |_=>none
def UE(_:Heap)(_:Nat):List AV→Option (Bool×bF)
 |[.sl _ k xs]=>some (true,.val (.sl true k xs))
 |[.gh]=>some (true,.val .gh)
 |_=>none
def G1:=ael [.val lW,.val (.sl nj)] [.val lW]
def K3:=ael [] [.val .bool]
def K4:aO:={ ps:=[.ref,.val nj],bs:=[.box 94 [.val lW,.val aeo,.val (.sl nj)]],rs:=[.val aeo,.val aeo] }
def K5:=ael [.val aeo] [.val nj]
def K6:aO:={ ps:=[.ref,.val aeo],bs:=[.box 94 [.val lW,.val aeo,.val (.sl nj)]],rs:=[.val aeo] }
def A2:aO:={ ps:=[.ref],bs:=[.box 94 [.val lW,.val aeo,.val (.sl nj)]],rs:=[.val aeo] }
def aaA:aO:={ ps:=[],bs:=[],rs:=[],x:=some Nv }
def G2:=ael [.val nj] [.val nj]
def K7:aO:={ ps:=[.ref,.val aeo],bs:=[.box 94 [.val lW,.val aeo,.val (.sl nj)]],rs:=[.val lW,.val aeo] }
def K8:=ael [.val lW,.val nj] []
def K9:=ael [.val (.sl sZ)] [.val (.sl sZ)]
def A3:=ael [.val (.sl (.int .u8)),.val (.sl (.int .u8))] [.val .bool]
def kl:=ael [.val dK] [.own (.row 5 (.int .u8)),.val aeo]
def DA:=ael [.val (.sl (.int .u8)),.val fZ] [.own (.row 5 (.int .u8))]
def La:=ael [.val dw] [.val fZ]
def Lb:=ael [.val dK] [.val aeo]
def G3:=ael [.val (.sl (.int .u8)),.val dw] [.own (.row 5 (.int .u8))]
def Lc:=ael [.val dK] [.val aeo]
def rQ:=ael [.val (.sl (.int .u8)),.val aeo] [.own (.row 5 (.int .u8))]
def Ld:=ael [.val (.sl (.int .u8)),.val .str] [.own (.row 5 (.int .u8))]
def xD:=ael [.val (.sl fZ)] [.val .bool]
def mb:=ael [.val dK] [.val .bool]
def G4:=ael [.val .str,.val aeo] [.val .bool]
def G5:=ael [.val .str,.val aeo] [.val .bool]
def aaB:aO:={ ps:=[],bs:=[],rs:=[],x:=some UE }
def A4:=ael [.val (.sl bj),.val (.sl bj)] [.val .bool]
def lH:=ael [.val lW,.val (.sl nj),.wN 36 0] [.val lW]
def aaC:aO:={ ps:=[],bs:=[],rs:=[],x:=some abZ }
def RH:=ael [] []
def RI:=ael [] []
def UF:=ael [] []
def RJ:=ael [] []
def lJ:=ael [.val (.sl cV),.wN 135 0] [.own (.row 35 fZ)]
def lK:=ael [.val (.sl dw),.wN 137 0] [.own (.row 35 fZ)]
def ta:=ael [.val dK,.wN 140 0] [.val .bool]
def tc:=ael [.val dK,.wN 142 0] [.val .bool]
def iF:aO:={ ps:=[.val (.sl cV),.wN 180 1],bs:=[.box 169 [.val (.fn 140)]],rs:=[.val .bool] }
def iG:aO:={ ps:=[.val (.sl cV),.wN 180 1],bs:=[.box 169 [.val (.fn 142)]],rs:=[.val .bool] }
def dP:aO:={ ps:=[.val (.sl cV),.wN 180 1],bs:=[.box 169 [.val (.fn 140)]],rs:=[.val aeo] }
def dQ:aO:={ ps:=[.val (.sl cV),.wN 180 1],bs:=[.box 169 [.val (.fn 142)]],rs:=[.val aeo] }
def iH:aO:={ ps:=[.val (.sl dw),.wN 182 1],bs:=[.box 169 [.val (.fn 140)]],rs:=[.val .bool] }
def iI:aO:={ ps:=[.val (.sl dw),.wN 182 1],bs:=[.box 169 [.val (.fn 142)]],rs:=[.val .bool] }
def dR:aO:={ ps:=[.val (.sl dw),.wN 182 1],bs:=[.box 169 [.val (.fn 140)]],rs:=[.val aeo] }
def dS:aO:={ ps:=[.val (.sl dw),.wN 182 1],bs:=[.box 169 [.val (.fn 142)]],rs:=[.val aeo] }
def iJ:aO:={ ps:=[.val cV,.ref],bs:=[.box 169 [.val (.fn 140)]],rs:=[.val .bool] }
def iK:aO:={ ps:=[.val cV,.ref],bs:=[.box 169 [.val (.fn 142)]],rs:=[.val .bool] }
def iL:aO:={ ps:=[.val dw,.ref],bs:=[.box 169 [.val (.fn 140)]],rs:=[.val .bool] }
def iM:aO:={ ps:=[.val dw,.ref],bs:=[.box 169 [.val (.fn 142)]],rs:=[.val .bool] }
def me:=ael [.val aeo,.val lW] [.own (.row 5 (.int .u8)),.val aeo]
def jZ:=ael [.val (.sl (.int .u8))] [.val aeo,.val lW,.val aeo]
def xF:=ael [.val (.sl cC)] [.val .bool]
def pT:=ael [.val (.sl (.int .u8))] [.val aeo,.val (.sl (.int .u8)),.val .bool]
def iO:=ael [.val (.sl (.int .u8))] [.val dK,.val aeo]
def G6:=ael [.val (.sl (.int .u8))] [.val cC,.val (.sl (.int .u8)),.val .bool]
def A5:aO:={ ps:=[.ref],bs:=[.box 116 [.val (.sl (.int .u8)),.val .bool]],rs:=[.val aeo] }
def G7:aO:={ ps:=[.ref],bs:=[.box 116 [.val (.sl (.int .u8)),.val .bool]],rs:=[.val dw] }
def G8:=ael [.val (.sl (.int .u8))] [.val (.sl (.int .u8)),.val (.sl (.int .u8)),.val .bool]
def np:=ael [.val (.sl (.int .u8))] [.val fZ,.val (.sl (.int .u8)),.val .bool]
def Le:=ael [.val (.sl (.int .u8))] [.val .str,.val (.sl (.int .u8)),.val .bool]
def rR:=ael [.val aeo,.val aeo,.val (.pair (.sl nj) (.sl nj))] [.val .bool]
def sgs:List (Nat×aO):=[(66,Ur),(14,Ky),(87,sd),(104,Di),(174,wi),(123,Br),(210,Kz),(131,Fz),(170,s5),(175,Ru),(37,Dk),(122,Iy),(121,Rv),(40,Us),(185,KA),(186,KB),(41,KC),(62,KD),(26,Nt),(12,FA),(65,KE),(82,Ut),(64,KF),(86,Rx),(88,Iz),(89,qZ),(90,Uu),(91,Uv),(92,Uw),(93,Bu),(94,Dl),(38,IA),(226,Ry),(227,FB),(211,u9),(63,KG),(59,IB),(209,IC),(83,IE),(84,KH),(75,Rz),(99,KI),(108,Ux),(85,IF),(119,RA),(120,RB),(105,KJ),(124,RC),(125,Bv),(126,Bw),(127,Bx),(128,RD),(129,RE),(130,KK),(132,sf),(237,Uy),(109,RF),(110,RG),(111,By),(149,IG),(100,q6),(151,FC),(141,xw),(143,IH),(112,KM),(113,Uz),(114,q7),(115,Dm),(116,Bz),(117,s6),(118,UA),(74,UB),(169,KN),(171,FD),(172,AQ),(173,vB),(176,AR),(177,KO),(243,KP),(72,Dn),(152,rO),(153,aar),(154,aas),(155,AS),(156,Dp),(157,KQ),(158,Dq),(96,AT),(159,oo),(160,Dt),(161,Du),(162,nk),(163,KR),(164,aat),(165,vC),(166,pQ),(167,rP),(168,KS),(188,GU),(102,AU),(191,aau),(192,KT),(193,AW),(194,xx),(195,nm),(196,pR),(144,KU),(198,GW),(199,KV),(200,GX),(73,AX),(202,pS),(101,xy),(103,Dv),(135,Dx),(216,xz),(217,KW),(183,KX),(219,GY),(220,aav),(221,Dy),(222,aaw),(150,Dz),(231,KY),(206,KZ),(207,AY),(208,AZ),(223,xC),(225,aax),(235,GZ),(236,iE),(240,A1),(241,K0),(242,s8),(245,K1),(189187,jV),(199197,jW),(74201,lE),(136215,lF),(220218,jX),(232230,jY),(207205,lG),(500083,K2),(900059,UC),(13,G1),(20,K3),(29,K4),(47,K5),(31,K6),(32,A2),(33,aaA),(27,G2),(61,K7),(36,K8),(60,K9),(46,A3),(42,kl),(43,DA),(137,La),(67,Lb),(68,G3),(95,Lc),(49,rQ),(97,Ld),(133,xD),(138,mb),(140,G4),(142,G5),(145,aaB),(178,A4),(37035,lH),(28,aaC),(2514003,RH),(3537003,RI),(900022,UF),(2769003,RJ),(136134,lJ),(138136,lK),(141139,ta),(143139,tc),(14100181179,iF),(14300181179,iG),(14100181203,dP),(14300181203,dQ),(14100183181,iH),(14300183181,iI),(14100183204,dR),(14300183204,dS),(14100000180,iJ),(14300000180,iK),(14100000182,iL),(14300000182,iM),(22,me),(24,jZ),(48,xF),(53,pT),(54,iO),(55,G6),(76,A5),(77,G7),(78,G8),(79,np),(106,Le),(7,rR)]
def Sg(f:FuncId):Option aO:=(sgs.find? (fun p=>p.1==f)).map (fun p=>p.2)
def eqs:List (Nat×K):=[(35,fZ),(40,bj),(98,Uq),(100,sZ),(84,dw),(42,cC)]
def Eqs(t:TypeId):Option K:=(eqs.find? (fun p=>p.1==t)).map (fun p=>p.2)
def DB:Shape:=⟨[(6,.int .i64)],[(.slot 2,20000,.box 27 [.val dK]),(.slot 3,20001,.box 35 [.val fZ]),(.slot 4,20002,.box 38 [.val aeo,.val aeo,.own (.row 40 bj),.val .str,.val aeo])],[],[]⟩
def DC:Shape:=⟨[(6,.int .i64)],[(.slot 2,20000,.box 27 [.val dK]),(.slot 3,20001,.box 40 [.val bj]),(.slot 4,20002,.box 35 [.val fZ])],[],[]⟩
def DD:Shape:=⟨[(6,.int .i64)],[(.slot 2,20000,.box 27 [.val dK]),(.slot 3,20001,.box 35 [.val fZ]),(.slot 4,20002,.box 84 [.val dw])],[],[]⟩
def DE:Shape:=⟨[],[(.slot 2,20000,.box 27 [.val dK]),(.slot 3,20001,.box 40 [.val bj]),(.slot 6,20002,.box 40 [.val bj])],[(5,31000,(.row 40 bj))],[]⟩
def DF:Shape:=⟨[(0,.sl bj),(5,.int .i64)],[(.slot 3,20000,.box 40 [.val bj])],[],[]⟩
def DG:Shape:=⟨[(5,.int .i64)],[(.slot 2,20000,.box 27 [.val dK]),(.slot 3,20001,.box 27 [.val dK])],[],[]⟩
def DH:Shape:=⟨[(9,.int .i64)],[(.slot 2,20000,.box 27 [.val dK]),(.slot 3,20001,.box 27 [.val dK])],[],[]⟩
def DI:Shape:=⟨[(0,.str),(3,.int .i64)],[],[],[]⟩
def zq:Shape:=⟨[(6,.int .i64)],[(.slot 1,20000,.box 27 [.val dK])],[(3,31000,(.row 36 (.sl bj))),(4,31001,(.row 40 bj)),(5,31002,(.row 40 bj))],[]⟩
def zr:Shape:=⟨[(4,.int .i64),(5,.int .i64)],[],[(3,31000,(.row 3 aeo))],[]⟩
def DJ:Shape:=⟨[(7,.int .i64)],[(.slot 2,20000,.box 30 [.val lW]),(.slot 3,20001,.box 61 [.val nj]),(.slot 4,20002,.box 30 [.own (.row 38 cV),.own (.row 84 dw),.own (.row 42 cC)])],[],[]⟩
def DK:Shape:=⟨[(4,.int .i64)],[(.slot 1,20000,.box 27 [.val dK]),(.slot 2,20001,.box 27 [.own (.row 38 cV),.own (.row 84 dw)]),(.slot 3,20002,.box 27 [.own (.row 38 cV),.own (.row 84 dw)])],[],[]⟩
def DL:Shape:=⟨[(3,.int .i64)],[(.slot 1,20000,.box 61 [.val nj])],[],[]⟩
def DM:Shape:=⟨[(18,.sl sZ),(19,.int .i64),(20,.int .i64)],[(.slot 4,20000,.box 30 [.own (.row 38 cV),.own (.row 84 dw),.own (.row 42 cC)]),(.slot 6,20001,.box 128 [.own (.row 38 cV),.own (.row 84 dw),.val (.sl cC)])],[],[]⟩
def wj:Shape:=⟨[(6,.bool),(7,.int .i64)],[(.slot 2,20000,.box 27 [.val dK]),(.slot 3,20001,.box 38 [.val cV]),(.slot 4,20002,.box 27 [.own (.row 38 cV),.own (.row 84 dw)]),(.slot 5,20003,.box 27 [.own (.row 38 cV),.val (.sl dw)])],[],[]⟩
def zt:Shape:=⟨[(8,.int .i64)],[(.slot 3,20000,.box 27 [.val dK]),(.slot 4,20001,.box 35 [.val fZ]),(.slot 5,20002,.box 35 [.val fZ]),(.slot 6,20003,.box 27 [.own (.row 38 cV),.own (.row 84 dw)]),(.slot 7,20004,.box 27 [.own (.row 38 cV),.own (.row 84 dw)])],[],[]⟩
def zu:Shape:=⟨[(9,.int .i64)],[(.slot 3,20000,.box 27 [.val dK]),(.slot 5,20001,.box 35 [.val fZ]),(.slot 6,20002,.box 27 [.own (.row 38 cV),.own (.row 84 dw)]),(.slot 7,20003,.box 27 [.own (.row 38 cV),.own (.row 84 dw)])],[],[]⟩
def nq:Shape:=⟨[(12,.sl cC),(13,.int .i64)],[(.slot 4,20000,.box 30 [.own (.row 38 cV),.own (.row 84 dw),.own (.row 42 cC)]),(.slot 8,20001,.box 40 [.val bj]),(.slot 9,20002,.box 40 [.val bj]),(.slot 10,20003,.box 40 [.val bj]),(.slot 11,20004,.box 27 [.val dK])],[],[]⟩
def td:Shape:=⟨[(7,.bool),(8,.int .i64)],[(.slot 2,20000,.box 30 [.val lW]),(.slot 3,20001,.box 100 [.val sZ]),(.slot 4,20002,.box 30 [.own (.row 38 cV),.own (.row 84 dw),.own (.row 42 cC)]),(.slot 6,20003,.box 27 [.own (.row 38 cV),.own (.row 84 dw)])],[],[]⟩
def te:Shape:=⟨[(7,.bool),(9,.int .i64)],[(.slot 2,20000,.box 30 [.val lW]),(.slot 3,20001,.box 100 [.val sZ]),(.slot 4,20002,.box 30 [.own (.row 38 cV),.own (.row 84 dw),.own (.row 42 cC)]),(.slot 6,20003,.box 27 [.own (.row 38 cV),.own (.row 84 dw)])],[],[]⟩
def DN:Shape:=⟨[(0,.sl cC),(1,.sl cC),(5,.int .i64)],[],[],[]⟩
def DO:Shape:=⟨[(5,.int .i64)],[(.slot 2,20000,.box 27 [.val dK]),(.slot 3,20001,.box 35 [.val fZ])],[],[]⟩
def DP:Shape:=⟨[(4,.int .i64)],[(.slot 1,20000,.box 27 [.val dK])],[(3,31000,(.row 3 aeo))],[]⟩
def zw:Shape:=⟨[(5,.int .i64)],[(.slot 1,20000,.box 27 [.val dK])],[(3,31000,(.row 3 aeo))],[]⟩
def tf:Shape:=⟨[(5,.int .i64),(6,.int .i64)],[(.slot 1,20000,.box 27 [.val dK])],[(3,31000,(.row 3 aeo))],[]⟩
def DQ:Shape:=⟨[(0,.sl bj),(1,.sl bj),(5,.int .i64)],[],[],[]⟩
def DR:Shape:=⟨[(17,.sl sZ),(18,.int .i64),(19,.int .i64)],[],[],[]⟩
def DS:Shape:=⟨[(4,.int .i64)],[(.slot 1,20000,.box 27 [.val dK])],[(3,31000,(.row 40 bj))],[]⟩
def DT:Shape:=⟨[(14,.int .i64),(15,.int .i64)],[(.slot 2,20000,.box 27 [.own (.row 38 cV),.own (.row 84 dw)]),(.slot 3,20001,.box 27 [.own (.row 38 cV),.own (.row 84 dw)])],[],[]⟩
def wm:Shape:=⟨[(6,.bool),(7,.int .i64)],[(.slot 2,20000,.box 27 [.val dK]),(.slot 3,20001,.box 84 [.val dw]),(.slot 4,20002,.box 27 [.own (.row 38 cV),.own (.row 84 dw)]),(.slot 5,20003,.box 27 [.val (.sl cV),.own (.row 84 dw)])],[],[]⟩
def l8:Shape:=⟨[(0,.sl cC),(8,.bool),(9,.int .i64)],[(.slot 3,20000,.box 42 [.val cC])],[(7,31000,(.row 42 cC))],[]⟩
def zx:Shape:=⟨[(0,.sl bj),(3,.int .i64),(4,.int .i64)],[],[],[]⟩
def DU:Shape:=⟨[(0,.sl bj),(3,.int .i64),(6,.int .i64)],[],[(5,31000,(.row 40 bj))],[]⟩
def wo:Shape:=⟨[(6,.int .i64),(7,.int .i64)],[(.slot 1,20000,.box 27 [.val dK])],[],[]⟩
def zy:Shape:=⟨[(0,.str)],[],[(6,31000,.oZ)],[]⟩
def nr:Shape:=⟨[(48,.int .i64),(49,.int .i64)],[(.slot 0,1000,.box 128 [.own (.row 38 cV),.own (.row 84 dw),.val (.sl cC)]),(.slot 5,20001,.box 30 [.val lW]),(.slot 7,20002,.box 40 [.val bj])],[(9,31000,(.row 40 bj)),(47,31001,(.row 98 Uq))],[]⟩
def IJ:Shape:=⟨[(5,.int .i64),(32,.int .i64),(33,.int .i64)],[(.slot 0,1000,.box 128 [.own (.row 38 cV),.own (.row 84 dw),.val (.sl cC)]),(.slot 7,20001,.box 40 [.val bj]),(.slot 8,20002,.box 40 [.val bj])],[(31,31000,(.row 40 bj))],[]⟩
def zz:Shape:=⟨[(5,.int .i64),(47,.int .i64),(48,.int .i64)],[(.slot 0,1000,.box 128 [.own (.row 38 cV),.own (.row 84 dw),.val (.sl cC)])],[(46,31000,(.row 40 bj))],[]⟩
def oP:Shape:=⟨[(113,.int .i64)],[(.slot 0,1000,.box 128 [.own (.row 38 cV),.own (.row 84 dw),.val (.sl cC)]),(.slot 8,20001,.box 40 [.val bj]),(.slot 9,20002,.box 40 [.val bj]),(.slot 10,20003,.box 40 [.val bj])],[],[]⟩
def DV:Shape:=⟨[(5,.int .i64)],[(.slot 2,20000,.box 30 [.val lW]),(.slot 3,20001,.box 40 [.val bj]),(.slot 4,20002,.box 40 [.val bj])],[],[]⟩
def zB:Shape:=⟨[(2,.sl bj),(8,.int .i64)],[(.slot 4,20000,.box 35 [.val fZ]),(.slot 6,20001,.box 27 [.own (.row 38 cV),.own (.row 84 dw)]),(.slot 7,20002,.box 27 [.own (.row 38 cV),.own (.row 84 dw)])],[],[]⟩
def uq:Shape:=⟨[(0,.sl bj),(7,.int .i64),(9,.int .i64)],[(.slot 5,20000,.box 40 [.val bj])],[(8,31000,(.row 40 bj))],[]⟩
def xG:Shape:=⟨[(0,.sl cC),(6,.int .i64)],[(.slot 3,20000,.box 40 [.val bj]),(.slot 4,20001,.box 40 [.val bj])],[],[]⟩
def uu:Shape:=⟨[(0,.sl bj),(6,.int .i64)],[(.slot 3,20000,.box 40 [.val bj])],[(5,31000,(.row 40 bj))],[]⟩
def BY:Shape:=⟨[(7,.int .i64)],[(.slot 0,1000,.box 128 [.own (.row 38 cV),.own (.row 84 dw),.val (.sl cC)]),(.slot 3,20001,.box 40 [.val bj]),(.slot 4,20002,.box 40 [.val bj]),(.slot 5,20003,.box 40 [.val bj])],[],[]⟩
def xH:Shape:=⟨[(12,.int .i64),(13,.int .i64)],[(.slot 0,1000,.box 128 [.own (.row 38 cV),.own (.row 84 dw),.val (.sl cC)]),(.slot 3,20001,.box 40 [.val bj])],[],[]⟩
def xI:Shape:=⟨[(12,.int .i64),(13,.int .i64)],[(.slot 2,20000,.box 30 [.val lW]),(.slot 3,20001,.box 40 [.val bj]),(.slot 4,20002,.box 40 [.val bj])],[],[]⟩
def xJ:Shape:=⟨[(0,.sl bj),(7,.int .i64),(8,.int .i64)],[(.slot 3,20000,.box 40 [.val bj])],[],[]⟩
def xK:Shape:=⟨[(0,.sl (.sl bj)),(3,.int .i64),(9,.sl (.sl bj)),(10,.int .i64),(11,.int .i64)],[],[],[]⟩
def xL:Shape:=⟨[(25,.sl (.sl bj)),(26,.int .i64),(27,.int .i64)],[],[(6,31000,(.row 40 bj))],[]⟩
def BZ:Shape:=⟨[(3,.int .i64),(6,.sl aeo),(7,.int .i64),(8,.int .i64)],[],[],[]⟩
def xM:Shape:=⟨[(9,.sl cV),(10,.int .i64),(11,.int .i64)],[(.slot 3,20000,.box 40 [.val bj]),(.slot 4,20001,.box 35 [.val fZ])],[],[]⟩
def xN:Shape:=⟨[(8,.sl dw),(9,.int .i64),(10,.int .i64)],[],[(3,31000,(.row 40 bj))],[]⟩
def ux:Shape:=⟨[(18,.sl cV),(19,.int .i64),(20,.int .i64)],[],[(3,31000,(.row 3 aeo)),(4,31001,(.map bj aeo))],[]⟩
def xO:Shape:=⟨[(5,.int .i64),(18,.sl cV),(19,.int .i64),(20,.int .i64),(30,.sl bj),(31,.int .i64),(32,.int .i64)],[],[(3,31000,(.row 3 aeo)),(4,31001,(.map bj aeo))],[]⟩
def q8:Shape:=⟨[(4,.mp bj aeo)],[],[(3,31000,(.row 3 aeo)),(42,31001,(.iter bj aeo))],[]⟩
def xQ:Shape:=⟨[(61,.int .i64),(62,.int .i64)],[],[(3,31000,(.row 3 aeo)),(13,31001,(.row 3 aeo))],[]⟩
def xR:Shape:=⟨[(11,.sl cV),(12,.int .i64),(13,.int .i64)],[(.slot 3,20000,.box 40 [.val bj]),(.slot 4,20001,.box 40 [.val bj])],[],[]⟩
def uy:Shape:=⟨[(1,.int .i64)],[],[(0,1000,(.row 3 aeo))],[]⟩
def jv:Shape:=⟨[(0,.sl cV),(8,.int .i64),(9,.int .i64),(10,.int .i64)],[(.slot 4,20000,.box 35 [.val fZ])],[],[(2,188,[])]⟩
def jw:Shape:=⟨[(0,.sl dw),(8,.int .i64),(9,.int .i64),(10,.int .i64)],[(.slot 4,20000,.box 35 [.val fZ])],[],[(2,198,[])]⟩
def kG:Shape:=⟨[(0,.sl bj),(6,.int .i64)],[(.slot 4,20000,.box 40 [.val bj]),(.slot 5,20001,.box 40 [.val bj])],[],[(1,73,[])]⟩
def nt:Shape:=⟨[(11,.sl cV),(12,.int .i64),(13,.int .i64)],[(.slot 5,20000,.box 35 [.val fZ]),(.slot 6,20001,.box 38 [.val aeo,.val aeo,.own (.row 40 bj),.val .str,.val aeo])],[],[(1,135,[])]⟩
def jx:Shape:=⟨[(0,.sl cC),(8,.int .i64),(9,.int .i64),(10,.int .i64)],[(.slot 4,20000,.box 40 [.val bj])],[],[(2,219,[])]⟩
def kH:Shape:=⟨[(0,.sl cC),(7,.int .i64),(8,.int .i64)],[(.cap 1 0,1000,.box 40 [.val bj])],[],[(1,231,[1000])]⟩
def kI:Shape:=⟨[(5,.int .i64),(8,.sl cV),(9,.int .i64),(10,.int .i64)],[],[],[(1,206,[])]⟩
def nu:Shape:=⟨[(13,.sl nj),(14,.int .i64),(15,.int .i64)],[(.slot 6,20000,.box 30 [.own (.row 38 cV),.own (.row 84 dw),.own (.row 42 cC)]),(.slot 7,20001,.box 30 [.val lW])],[],[(2,36,[])]⟩
def uz:Shape:=⟨[(25,.sl dw),(26,.int .i64),(27,.int .i64)],[(.slot 1,20000,.box 27 [.val dK])],[(5,31000,(.map fZ aeo)),(6,31001,(.row 5 (.int .u8)))],[]⟩
def uA:Shape:=⟨[(48,.sl cV),(49,.int .i64),(50,.int .i64)],[],[(5,31000,(.map fZ aeo)),(6,31001,(.row 5 (.int .u8)))],[]⟩
def xS:Shape:=⟨[(48,.sl cV),(49,.int .i64),(50,.int .i64),(71,.sl bj),(72,.int .i64),(73,.int .i64)],[],[(5,31000,(.map fZ aeo)),(6,31001,(.row 5 (.int .u8)))],[]⟩
def q9:Shape:=⟨[(0,.sl (.int .u8)),(1,.int .i64),(14,.int .i64)],[],[(5,31000,(.row 5 (.int .u8)))],[]⟩
def uB:Shape:=⟨[(0,.sl fZ),(5,.sl fZ),(6,.int .i64),(7,.int .i64)],[],[],[]⟩
def xT:Shape:=⟨[(12,.sl dw),(13,.int .i64),(14,.int .i64)],[(.slot 1,20000,.box 27 [.val dK])],[(3,31000,(.map bj .bool))],[]⟩
def uC:Shape:=⟨[(28,.sl cV),(29,.int .i64),(30,.int .i64)],[],[(3,31000,(.map bj .bool))],[]⟩
def uD:Shape:=⟨[(28,.sl cV),(29,.int .i64),(30,.int .i64),(42,.sl bj),(43,.int .i64),(44,.int .i64)],[],[(3,31000,(.map bj .bool))],[]⟩
def xU:Shape:=⟨[(0,.sl bj),(1,.sl bj),(12,.int .i64),(13,.int .i64)],[],[],[]⟩
def nw:Shape:=⟨[(8,.sl cV),(9,.int .i64),(10,.int .i64)],[],[(5,31000,(.row 35 fZ))],[(1,135,[])]⟩
def nC:Shape:=⟨[(8,.sl dw),(9,.int .i64),(10,.int .i64)],[],[(5,31000,(.row 35 fZ))],[(1,137,[])]⟩
def gi:Shape:=⟨[(0,.sl cV),(7,.int .i64),(8,.int .i64)],[(.cap 1 0,1000,.box 169 [.val (.fn 140)])],[],[(1,180,[1000])]⟩
def gj:Shape:=⟨[(0,.sl cV),(7,.int .i64),(8,.int .i64)],[(.cap 1 0,1000,.box 169 [.val (.fn 142)])],[],[(1,180,[1000])]⟩
def gk:Shape:=⟨[(0,.sl dw),(7,.int .i64),(8,.int .i64)],[(.cap 1 0,1000,.box 169 [.val (.fn 140)])],[],[(1,182,[1000])]⟩
def gm:Shape:=⟨[(0,.sl dw),(7,.int .i64),(8,.int .i64)],[(.cap 1 0,1000,.box 169 [.val (.fn 142)])],[],[(1,182,[1000])]⟩
def oq:Shape:=⟨[(40,.sl cC),(41,.int .i64),(42,.int .i64)],[],[(8,31000,(.row 5 (.int .u8)))],[]⟩
def j0:Shape:=⟨[(0,.sl (.int .u8)),(5,.int .i64),(6,.sl (.int .u8)),(11,.int .i64)],[(.slot 3,20000,.box 30 [.own (.row 38 cV),.own (.row 84 dw),.own (.row 42 cC)]),(.slot 12,20001,.box 30 [.val (.sl cV),.val (.sl dw),.own (.row 42 cC)])],[],[]⟩
def mn:Shape:=⟨[(0,.sl cC),(5,.sl cC),(6,.int .i64),(7,.int .i64)],[],[],[]⟩
def ot:Shape:=⟨[(0,.sl (.int .u8)),(5,.int .u64),(13,.sl (.int .u8)),(14,.int .i64),(15,.int .i64)],[],[],[]⟩
def rf:Shape:=⟨[(0,.sl (.int .u8)),(6,.int .i64)],[(.slot 2,20000,.box 27 [.own (.row 38 cV),.own (.row 84 dw)]),(.slot 4,20001,.box 116 [.val (.sl (.int .u8)),.val .bool]),(.slot 5,20002,.box 27 [.own (.row 38 cV),.own (.row 84 dw)])],[],[]⟩
def ou:Shape:=⟨[(0,.sl (.int .u8)),(7,.int .i64)],[(.slot 2,20000,.box 27 [.own (.row 38 cV),.own (.row 84 dw)]),(.slot 4,20001,.box 116 [.val (.sl (.int .u8)),.val .bool]),(.slot 5,20002,.box 27 [.own (.row 38 cV),.own (.row 84 dw)])],[],[]⟩
def rh:Shape:=⟨[(0,.sl (.int .u8)),(7,.int .i64),(49,.bool),(50,.bool),(87,.sl (.int .u8)),(88,.int .i64),(89,.int .i64)],[(.slot 2,20000,.box 27 [.own (.row 38 cV),.own (.row 84 dw)]),(.slot 4,20001,.box 116 [.val (.sl (.int .u8)),.val .bool]),(.slot 5,20002,.box 27 [.own (.row 38 cV),.own (.row 84 dw)]),(.slot 9,20003,.box 38 [.val aeo,.val aeo,.own (.row 40 bj),.val .str,.val aeo])],[],[]⟩
def ov:Shape:=⟨[(0,.sl (.int .u8)),(19,.sl (.int .u8)),(20,.int .i64),(21,.int .i64)],[(.slot 2,20000,.box 35 [.val fZ]),(.slot 5,20001,.box 35 [.val fZ])],[],[]⟩
def xV:Shape:=⟨[(0,.int .i64),(1,.int .i64),(7,.bool),(10,.int .i64)],[(.slot 5,20000,.box 57 [.val (.sl nj),.val (.sl nj)]),(.slot 8,20001,.box 30 [.val lW]),(.slot 9,20002,.box 30 [.val lW])],[],[]⟩
def uE:Shape:=⟨[(0,.int .i64),(1,.int .i64),(7,.bool),(11,.int .i64)],[(.slot 5,20000,.box 57 [.val (.sl nj),.val (.sl nj)]),(.slot 8,20001,.box 30 [.val lW]),(.slot 9,20002,.box 30 [.val lW])],[],[]⟩
def Nw:Shape:=⟨[],[],[(12,0,(.row 5 (.int .u8)))],[]⟩
def ans:List (Nat×List (Nat×Shape)):=[(87,[(2,DB)]),(174,[(2,DC)]),(123,[(2,DD)]),(210,[(6,DE)]),(170,[(2,DF)]),(37,[(4,DG),(12,DH)]),(122,[(2,DI)]),(185,[(5,zq)]),(186,[(4,zr)]),(41,[(5,DJ)]),(12,[(3,DK)]),(65,[(4,DL)]),(64,[(3,DM)]),(88,[(4,wj)]),(89,[(3,zt),(8,zu)]),(93,[(18,nq)]),(94,[(4,td),(12,te)]),(38,[(4,DN)]),(227,[(2,DO)]),(211,[(3,DP),(7,zw),(10,tf)]),(63,[(4,DQ)]),(59,[(4,DR)]),(209,[(3,DS)]),(83,[(3,DT)]),(125,[(4,wm)]),(127,[(7,l8)]),(132,[(3,zx),(9,DU)]),(149,[(3,wo)]),(141,[(2,zy)]),(114,[(8,nr)]),(115,[(6,IJ),(11,zz)]),(117,[(19,oP)]),(169,[(2,DV)]),(171,[(3,zB)]),(172,[(6,uq)]),(173,[(2,xG)]),(176,[(3,uu)]),(161,[(3,BY)]),(162,[(2,xH)]),(193,[(2,xI)]),(195,[(2,xJ)]),(202,[(3,xK),(11,xL)]),(101,[(3,BZ)]),(216,[(2,xM)]),(223,[(3,xN)]),(236,[(4,ux),(8,xO),(14,q8),(21,xQ)]),(240,[(2,xR)]),(242,[(1,uy)]),(189187,[(3,jv)]),(199197,[(3,jw)]),(74201,[(5,kG)]),(136215,[(2,nt)]),(220218,[(3,jx)]),(232230,[(2,kH)]),(207205,[(3,kI)]),(37035,[(3,nu)]),(42,[(7,uz),(14,uA),(19,xS)]),(49,[(4,q9)]),(133,[(2,uB)]),(138,[(3,xT),(9,uC),(14,uD)]),(178,[(4,xU)]),(136134,[(3,nw)]),(138136,[(3,nC)]),(14100181203,[(2,gi)]),(14300181203,[(2,gj)]),(14100183204,[(2,gk)]),(14300183204,[(2,gm)]),(22,[(8,oq)]),(24,[(8,j0)]),(48,[(2,mn)]),(53,[(5,ot)]),(54,[(4,rf),(8,ou),(15,rh)]),(79,[(5,ov)]),(7,[(7,xV),(11,uE),(500016,Nw)])]
def An(f:FuncId)(key:Nat):Option Shape:=(ans.find? (fun p=>p.1==f)).bind fun p=>(p.2.find? (fun q=>q.1==key)).map (fun q=>q.2)
abbrev JT(g:aO):=(sh:Shape)→List Item→sh.T→Option g.B
noncomputable def bH(f:FuncId)(g:aO)(fn:Func)(F:FT)(J:JT g)(x:g.A):Option g.B:=aF Tryz.prog Eqs Sg F fn.ntmps (An f) J (sL Tryz.prog g fn) fuel [.code (fn.body.getD .skip)] (entry g x)
noncomputable def eI(f j:Nat)(g:aO)(fn:Func)(sh:Shape)(F:FT)(J:JT g)(x:sh.T):Option g.B:=aF Tryz.prog Eqs Sg F fn.ntmps (An f) J (sL Tryz.prog g fn) fuel (round (aK Tryz.prog (f%1000) j)) (aw sh x)
end Go.Vs
namespace Go.Vs
open Go.Proofs
variable {G:(f:FuncId)→(g:aO)→Option (g.A→Option g.B)}
noncomputable abbrev FX(G:(f:FuncId)→(g:aO)→Option (g.A→Option g.B)):FT:=Fix Tryz.prog Eqs Sg An G
noncomputable abbrev LX(G:(f:FuncId)→(g:aO)→Option (g.A→Option g.B))(f:FuncId)(g:aO)(fn:Func):JT g:=Lp Tryz.prog Eqs Sg An G f g fn
abbrev HG(G:(f:FuncId)→(g:aO)→Option (g.A→Option g.B)):Prop:=∀f g,(f==207 || f==208)=false→G f g=none
theorem av{f:FuncId}{g:aO}{fn:Func}{x:g.A}{y:g.B}{z:Option g.B}(hG:G f g=none)(e:bH f g fn (FX G) (LX G f g fn) x=z)(h:z=some y) (hb:body Tryz.prog (f%1000)=some (fn,fn.body.getD .skip):=by kernel_rfl) (hc:(decide (g.ps.length≤fn.ntmps)&&decide (g.bs.length≤8))=true:=by kernel_rfl):FX G f g x=some y:=O5 hG hb hc (e.trans h)
theorem ar{f j:Nat}{g:aO}{fn:Func}{sh:Shape}{x:sh.T}{y:g.B}{z:Option g.B}(e:eI f j g fn sh (FX G) (LX G f g fn) x=z)(h:z=some y) (hs:(match aK Tryz.prog (f%1000) j with | .inLoop _::_=>true|_=>false)=true:=by kernel_rfl):LX G f g fn sh (aK Tryz.prog (f%1000) j) x=some y:=by
 have h:=e.trans h;unfold eI at h;generalize aK Tryz.prog (f%1000) j=s at hs h ⊢
 split at hs
 ·exact Up h
 ·cases hs
abbrev aaa:=(Int×Unit)
abbrev aac:=(((List ai)×((List ag)×Unit))×(((List ai)×((List ag)×Unit))×Unit))
abbrev aag:=(ab×Unit)
abbrev aah:=(Int×aaa)
abbrev aaj:=(ID×Unit)
abbrev aam:=(ak×Unit)
abbrev aao:=((List ab)×Unit)
abbrev aap:=(aag×Unit)
abbrev aay:=((List Int)×Unit)
abbrev aaz:=(Unit×Unit)
abbrev aaH:=(aam×Unit)
abbrev aaI:=(aX×Unit)
abbrev aaJ:=(aaj×Unit)
abbrev aaK:=(StateT×Unit)
abbrev aaU:=(aaj×((Int×(Int×((List ab)×(ByteArray×aaa))))×Unit))
abbrev aa4:=((List ab)×aaa)
abbrev aa5:=((List ab)×aah)
abbrev aa7:=((List ai)×aah)
end Go.Vs
