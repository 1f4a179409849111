/- The value semantics is sound -/
import Derived.Test.YtoleelddkocpkaaGreatEngineC
import Derived.Test.YtoleelddkocpkaaGreatProg
import Derived.Scope
import Derived.KernelRfl
set_option linter.unusedSimpArgs false
set_option linter.unusedVariables false
namespace Go.Vs
variable {P:Program} {Eqs:TypeId→Option K} {Sg:FuncId→Option aP} {F:(f:FuncId)→(g:aP)→g.A→Option g.B} {R:Type}
variable {Z Z' Z0:Nat→Prop} {ψ ψ' ψ0:Nat→Value} {h h':Hp} {w w' w0:World} {B0:Nat} {O N:Nat→Prop}
def fK(st:St):(l:List (Nat×Nat×OK))→Mr (l.map (·.2.2))→List Ao
 |[],_=>[]
 |(s,id,ok)::r,x=>(id,(qa (look st.tmps s)).head?,.own ok x.1)::fK st r x.2
theorem wY(st:St):∀(l:List (Nat×Nat×OK)) (x:Mr (l.map (·.2.2))),dP (fK st l x)=rY l x
 |[],_=>rfl
 |(s,id,ok)::r,x=>by simp only[fK,rY];rw[←wY st r x.2];rfl
theorem u7(st:St):∀(l:List (Nat×Nat×OK)) (x:Mr (l.map (·.2.2))),(fK st l x).map (·.1)=l.map (·.2.1)
 |[],_=>rfl
 |(s,id,ok)::r,x=>by simp only[fK,List.map_cons];rw[u7 st r x.2]
theorem Az(st:St):∀(l:List (Nat×Nat×OK)) (x:Mr (l.map (·.2.2))),(fK st l x).filterMap (·.2.1)=l.flatMap fun p=>qa (look st.tmps p.1)
 |[],_=>rfl
 |(s,id,ok)::r,x=>by simp only[fK,List.flatMap_cons];rw[dU,Az st r x.2];simp only[];rw[yK]
theorem sq{st:St}{s id:Nat}{ok:OK}{r:List (Nat×Nat×OK)}{x:Mr (((s,id,ok)::r).map (·.2.2))}(hd:qd st ((s,id,ok)::r)=some x):ep st.heap ok (look st.tmps s)=some x.1∧qd st r=some x.2:=by
 have e:qd st ((s,id,ok)::r)=(match ep st.heap ok (look st.tmps s),qd st r with
  |some x,some y=>some ((x,y):ok.T×Mr (r.map (·.2.2)))
  |_,_=>none):=rfl
 grind
theorem C4{hd:Hp}{st:St}:∀(l:List (Nat×Nat×OK)) (x:Mr (l.map (·.2.2))),qd st l=some x→(∀s∈(l.flatMap fun p=>qa (look st.tmps p.1)),hd s=st.heap.get s) → ∀e∈fK st l x,wP Z ψ hd w h' ψ' e
 |[],_,_,_,e,he=>by simp[fK]at he
 |(s,id,ok)::r,x,hx,hk,e,he=>by
  obtain⟨h1,h2⟩:=sq hx;simp only[List.flatMap_cons]at hk;simp only[fK]at he;rcases abL.1 he with rfl|he
  ·exact Od h1 fun s hs=>hk s (ab1 _ hs)
  ·exact C4 r x.2 h2 (fun s hs=>hk s (abV _ hs)) e he
theorem Kk{st:St}{s:Nat}{k:K}{r:List (Nat×K)}{x:JC (((s,k)::r).map (·.2))}(hd:vz st ((s,k)::r)=some x):gY k st.heap (look st.tmps s)=some x.1∧vz st r=some x.2:=by
 have e:vz st ((s,k)::r)=(match gY k st.heap (look st.tmps s),vz st r with
  |some x,some y=>some ((x,y):k.T×JC (r.map (·.2)))
  |_,_=>none):=rfl
 grind
theorem fa{T:List (Nat×AV)}{n:Nat}{a:Act}(iq:∀p∈T,aC Z ψ h w p.2 (a.tmps.getD p.1 undef))(hs:a.tmps.size=n)(hd:a.defers=[]):cT Z ψ h w n (look T) a:=by
 refine⟨fun d=>?_,hs,hd⟩
 induction T with
 |nil=>simp only[look,aC]
 |cons p r ih =>
  grind [look,List.mem_cons_self,List.mem_cons_of_mem]
section
variable {st:St} {n:Nat} {a:Act}
theorem wZ(g:Good Z ψ st.heap.get w B0 O)(t:cT Z ψ st.heap.get w n (look st.tmps) a)(hz:∀b,Z b→Z' b):∀(l:List (Nat×K)) (x:JC (l.map (·.2))),vz st l=some x →(∀id b,AV.bL id∈(l.flatMap fun p=>(look st.tmps p.1).cells)→st.heap.get id≠none→ob (ψ id)=some b→Z' b)→∀p∈rX l x,aC Z' ψ' h' w p.2 (a.tmps.getD p.1 undef)
 |[],_,_,_,p,hp=>by simp[rX]at hp
 |(s,k)::r,x,hx,hf,p,hp=>by
  obtain⟨h1,h2⟩:=Kk hx;simp only[List.flatMap_cons]at hf;simp only[rX]at hp;rcases abL.1 hp with rfl|hp
  ·exact tD g hz (fun id b bM=>hf id b (ab1 _ bM)) h1 (t.rep s)
  ·exact wZ g t hz r x.2 h2 (fun id b bM=>hf id b (abV _ bM)) p hp
theorem u9(t:cT Z ψ st.heap.get w n (look st.tmps) a):∀(l:List (Src×Nat×BK)) (ids:List Nat),HM st l=some ids→(∀i∈ids,st.heap.get i≠none) →(∀p∈ids.zip (l.map (·.2.1)),h' p.2≠none→ψ' p.2=ψ p.1)→∀p∈kf l,aC Z' ψ' h' w p.2 (a.tmps.getD p.1 undef)
 |[],_,_,_,_,p,hp=>by simp[kf]at hp
 |(src,oO,b)::r,ids,hx,hi,j4,p,hp=>by
  simp only[HM]at hx
  split at hx
  ·rename_i i is h1 h2
   cases hx
   simp only[List.map_cons,List.zip_cons_cons]at j4;have ih:=u9 t r is h2 (fun j hj=>hi j (abC _ hj)) (fun p hp=>j4 p (abC _ hp)) p
   cases src with
   |slot s =>
    simp only[kf]at hp;rcases abL.1 hp with rfl|hp
    ·simp only[ZA]at h1;obtain⟨sz,h3⟩:=qm h1;have h4:=t.rep s
     grind [BA,List.mem_cons_self]
    ·exact ih hp
   |cap s j=>grind [kf]
  ·cases hx
theorem Kl{hh:Heap}{ids:List (Nat×Nat)}(hi:∀p∈ids,hh.get p.1≠none)(j4:∀p∈ids,h' p.2≠none→ψ' p.2=ψ p.1):∀(cap:List AV) (is HN:List Nat) (vs:List Value),kd cap=some is → is.map (fun i=>(ids.find? (·.1==i)).map (·.2))=HN.map some→ax Z ψ hh.get w cap vs→ax Z' ψ' h' w (HN.map fun i=>.ref i 0 0 0) vs
 |[],is,HN,vs,h1,h2,hr=>by simp_all [kd,List.map_nil,ax]
 |v::cap,is,HN,vs,h1,h2,hr=>by
  simp only[kd]at h1
  split at h1
  ·rename_i i is' h3 h4
   cases h1
   cases HN with
   |nil=>simp at h2
   |cons c r =>
    simp only[List.map_cons,List.cons.injEq]at h2;obtain⟨h5,h6⟩:=h2;simp only[List.map_cons,ax]at hr ⊢;obtain⟨u,us,rfl,h7,h8⟩:=hr;obtain⟨sz,rfl⟩:=qm h3
    cases hf:ids.find? (·.1==i) with
    |none=>simp_all
    |some p =>
     rw[hf]at h5;have hm:=ac4 hf;have he:=adn hf;simp only[Option.map_some,Option.some.injEq]at h5;have N7:p.1=i:=by simpa using he
     refine⟨u,us,rfl,BA h7 (by grind) (fun hn=>?_),Kl hi j4 cap is' r us h4 h6 h8⟩
     grind
  ·cases h1
theorem AA(t:cT Z ψ st.heap.get w n (look st.tmps) a){ids:List (Nat×Nat)}(hi:∀p∈ids,st.heap.get p.1≠none)(j4:∀p∈ids,h' p.2≠none→ψ' p.2=ψ p.1):∀(l:List (Nat×FuncId×List Nat)),N6 st ids l=true → ∀p∈Bq l,aC Z' ψ' h' w p.2 (a.tmps.getD p.1 undef)
 |[],_,p,hp=>by simp[Bq]at hp
 |(s,f,HN)::r,hx,p,hp=>by
  simp only[N6,Bool.and_eq_true]at hx;simp only[Bq,List.map_cons]at hp;rcases abL.1 hp with rfl|hp
  ·have h1:=hx.1
   split at h1
   ·rename_i f' cap hl;simp only[Bool.and_eq_true,decide_eq_true_eq]at h1;obtain⟨rfl,h2⟩:=h1
    split at h2
    ·rename_i is hri;have h4:=t.rep s;rw[hl]at h4;simp only[aC]at h4 ⊢;obtain⟨vs,h5,h6⟩:=h4;exact⟨vs,h5,Kl hi j4 cap is HN _ hri (of_decide_eq_true h2) h6⟩
    ·cases h2
   ·cases h1
  ·exact AA t hi j4 r hx.2 p hp
theorem w4(t:cT Z ψ st.heap.get w n (look st.tmps) a):∀(l:List (Nat×Nat×OK)) (x:Mr (l.map (·.2.2))),qd st l=some x→(∀e∈fK st l x,h' e.1≠none→ψ' e.1=kj ψ e.2.1) → ∀p∈(l.map fun p=>(p.1,AV.bL p.2.1)),aC Z' ψ' h' w p.2 (a.tmps.getD p.1 undef)
 |[],_,_,_,p,hp=>by simp at hp
 |(s,id,ok)::r,x,hx,j4,p,hp=>by
  obtain⟨h1,h2⟩:=sq hx;simp only[fK]at j4;simp only[List.map_cons]at hp;rcases abL.1 hp with rfl|hp
  ·exact HX h1 (t.rep s) (j4 _ aco)
  ·exact w4 t r x.2 h2 (fun e he=>j4 e (abC _ he)) p hp
end
theorem w5{st:St}{m:Nat}:∀(l:List (Nat×Nat×OK)) (x:Mr (l.map (·.2.2))),oQ st m l=true→∃o,(m,some m,o)∈fK st l x
 |[],_,h=>by cases h
 |(s,id,ok)::r,x,h=>by
  simp only[oQ,Bool.or_eq_true,Bool.and_eq_true,beq_iff_eq]at h;rcases h with⟨rfl,h⟩|h
  ·grind [id,fK,qa,List.head?_cons,List.mem_cons_self]
  ·obtain⟨o,ho⟩:=w5 r x.2 h;exact⟨o,abC _ ho⟩
theorem vc{st:St}{m:Nat}:∀(l:List (Nat×Nat×OK)) (x:Mr (l.map (·.2.2))),qd st l=some x→oQ st m l=true→st.heap.get m≠none
 |[],_,_,h=>by cases h
 |(s,id,ok)::r,x,hx,h=>by
  obtain⟨h1,h2⟩:=sq hx;simp only[oQ,Bool.or_eq_true,Bool.and_eq_true,beq_iff_eq]at h;rcases h with⟨rfl,h⟩|h
  ·split at h
   ·rename_i i hl;have hi:i=id:=by simpa using h
    subst hi;rw[hl]at h1;simp only[ep]at h1
    split at h1
    ·rename_i hg;rw[hg];simp
    ·cases h1
   ·cases h
  ·exact vc r x.2 h2 h
theorem Oo{lC:List AV}{hh:Heap}{b:Nat}(hb:rJ Z ψ hh.get lC b):Z b∨Own ψ hh.get b:=hb.imp (fun h=>h) fun⟨i,_,h2,h3⟩=>⟨i,h2,h3⟩
theorem gL{sh:Shape}{st:St}{x:sh.T}{n:Nat}{a:Act}(hx:cM sh st=some x)(k:Ok Z0 w0 O ψ0 Z ψ st.heap.get w)(t:cT Z ψ st.heap.get w n (look st.tmps) a) :
  ∃Z' ψ',Ok Z0 w0 O ψ0 Z' ψ' (az sh x).heap.get w∧cT Z' ψ' (az sh x).heap.get w n (look (az sh x).tmps) a:=by
 unfold cM at hx
 split at hx
 ·cases hx
 rename_i ids rB
 split at hx
 ·rename_i xv xb xr hv hb hr Fg
  cases hx
  simp only[Bool.and_eq_true]at Fg;obtain⟨Km,H5,ajP,apP⟩:=Fg;obtain⟨hlen,Gv⟩:=jJ _ _ _ hb;have ZS:(sh.boxes.map (·.2.1)).length=sh.bs.length:=by simp[Shape.bs]
  let L:List Ao:=cC sh.bs st.heap ids (sh.boxes.map (·.2.1)) 9000 xb++fK st sh.rows xr
  have eH:dP L=(az sh (xv,xb,xr)).heap:=by show dP (_++_)=_;rw[nJ,jI _ _ _ _ _ _ hb ZS,wY];rfl
  have eN:L.map (·.1)=tp sh:=by show(_++_:List Ao).map _=_;rw[List.map_append,iu _ _ _ _ _ _ hb ZS,u7];rfl
  have eS:L.filterMap (·.2.1)=JH st sh ids:=by show(_++_:List Ao).filterMap _=_;rw[List.filterMap_append,kT _ _ _ _ _ _ hb ZS,Az];rfl
  have hn:ck (L.map (·.1))=true:=by simp_all
  have j4:=Bz (ψ:=ψ) hn;have hz:∀b,Z b→rJ Z ψ st.heap.get (Bp st sh ids) b:=fun b hb=>.inl hb;have Jw:=(tJ Km).2 st.heap;have g':Good (rJ Z ψ st.heap.get (Bp st sh ids)) (eZ ψ L) (dP L).get w w0.heap.size O:=by
   refine yL k.dv Km hn eS fun e he=>?_;rcases acS.1 he with he|he
   ·exact mD k.dv hz sh.bs ids _ 9000 xb hb (fun id b bM h1 h2=>.inr ⟨id,abV _ bM,h1,h2⟩) (fun s hs=>Jw s (ab1 _ hs)) (fun e he=>j4 e (ab1 _ he)) e he
   ·exact C4 sh.rows xr hr (fun s hs=>Jw s (abV _ hs)) e he
  have abm:∀p∈ids.zip (sh.boxes.map (·.2.1)),(dP L).get p.2≠none→eZ ψ L p.2=ψ p.1:=fun p hp bw=>by obtain⟨o,ho⟩:=kU sh.bs ids (sh.boxes.map (·.2.1)) 9000 xb (hh:=st.heap) hlen p hp;exact j4 (p.2,some p.1,o) (ab1 _ ho) bw
  have Jt:∀p∈ids.zip (sh.boxes.map (·.2.1)),st.heap.get p.1≠none:=fun p hp=>Gv _ (List.of_mem_zip hp).1;refine⟨rJ Z ψ st.heap.get (Bp st sh ids),eZ ψ L,?_,?_⟩
  ·rw[←eH];refine⟨g',fun b hb=>.inl (k.gk b hb),fun b hb=>?_,k.os,k.tape,k.output,k.size,k.block,fun i hi bw=>?_⟩
   ·rcases Oo hb with h1|⟨id,h1,h2⟩
    ·exact k.eP b h1
    ·exact .inr (k.dv.live id b h1 h2).2.symm
   ·obtain⟨o,ho⟩:=acb.1 bw;obtain⟨s,hm⟩:=oX ho;have iy:i∈tp sh:=by grind
    have h1:=ac3.1 ajP i iy;simp only[Bool.or_eq_true,decide_eq_true_eq]at h1;rcases h1 with(h1|h1)|h1
    ·omega
    ·obtain⟨p,hp,he⟩:=List.any_eq_true.1 h1;simp only[Bool.and_eq_true,beq_iff_eq]at he;have h2:=abm p hp (by simp_all);rw[he.1,he.2]at h2;rw[h2];exact k.fix i hi (by grind)
    ·obtain⟨o',rK⟩:=w5 sh.rows xr h1;have h2:eZ ψ L i=ψ i:=j4 (i,some i,o') (abV _ rK) bw;rw[h2];exact k.fix i hi (vc sh.rows xr hr h1)
  ·rw[←eH];refine fa (fun p hp=>?_) t.size t.defers;simp only[az]at hp;rcases acS.1 hp with hp|hp
   ·exact wZ k.dv t hz sh.A5 xv hv (fun id b bM h1 h2=>.inr ⟨id,ab1 _ bM,h1,h2⟩) p hp
   ·rcases acS.1 hp with hp|hp
    ·grind [u9]
    ·rcases acS.1 hp with hp|hp
     ·grind [AA]
     ·exact w4 t sh.rows xr hr (fun e he=>j4 e (abV _ he)) p hp
 ·cases hx
end Go.Vs
namespace Go.Vs
variable {P:Program} {Eqs:TypeId→Option K} {Sg:FuncId→Option aP} {F:(f:FuncId)→(g:aP)→g.A→Option g.B} {R:Type}
variable {Z Z' Z0:Nat→Prop} {ψ ψ' ψ0:Nat→Value} {h h':Hp} {w w' w0:World} {B0:Nat} {O N:Nat→Prop}
def Reach(P:Program)(b:Frame)(cs:List Frame)(vN:Act→World→Prop)(m:Machine):Prop:=∃a' w' todo,vN a' w'∧Steps P m (lone { b.at a' todo with mode:=.returning } cs w')
theorem Reach.head{b:Frame}{cs:List Frame}{vN:Act→World→Prop}{m m':Machine}(h:step P m=.next m')(r:Reach P b cs vN m'):Reach P b cs vN m:=by obtain⟨a,w,todo,h1,h2⟩:=r;exact⟨a,w,todo,h1,.head h h2⟩
theorem Reach.steps{b:Frame}{cs:List Frame}{vN:Act→World→Prop}{m m':Machine}(h:Steps P m m')(r:Reach P b cs vN m'):Reach P b cs vN m:=by obtain⟨a,w,todo,h1,h2⟩:=r;exact⟨a,w,todo,h1,h.trans h2⟩
mutual
theorem Kn{p:Nat→Prop}(hp:∀i,p i):∀v:AV,aM p v
 |.ref id _ _ _=>by simp only[aM];exact hp id
 |.bL id=>by simp only[aM];exact hp id
 |.fn _ cap=>by simp only[aM];exact tP hp cap
 |.agg cs=>by simp only[aM];exact tP hp cs
 |.n8 vs=>by simp only[aM];exact tP hp vs
 |.no=>by simp only[aM]
 |.bool _=>by simp only[aM]
 |.int _ _=>by simp only[aM]
 |.str _=>by simp only[aM]
 |.lQ=>by simp only[aM]
 |.fO=>by simp only[aM]
 |.fp _ _ _=>by simp only[aM]
 |.sl _ _ _=>by simp only[aM]
 |.mp _ _ _=>by simp only[aM]
theorem tP{p:Nat→Prop}(hp:∀i,p i):∀l:List AV,aD p l
 |[]=>by simp only[aD]
 |v::r=>by simp only[aD];exact⟨Kn hp v,tP hp r⟩
end
theorem Yk(s:Nat){n:Nat}{a:Act}{st:St}(k:Ok Z0 w0 O ψ0 Z ψ st.heap.get w)(t:cT Z ψ st.heap.get w n (look st.tmps) a):∃Z',Ok Z0 w0 O ψ0 Z' ψ (SK s st).heap.get w∧cT Z' ψ (SK s st).heap.get w n (look (SK s st).tmps) a:=by
 unfold SK
 split
 ·rename_i m hl
  split
  ·rename_i ty kk xs hg;have g:=k.dv;obtain⟨vs,XA,yI⟩:=g.row m (.row ty kk) xs hg;have hs:∀i o,(st.heap.del m).get i=some o→st.heap.get i=some o:=fun i o hi=>by simp_all [tB,dW]
   have gg:=g.freeze (Z':=fun b=>Z b∨ob (ψ m)=some b) (h':=(st.heap.del m).get) hs (fun b hb=>.inl hb) (fun b hb=>hb.imp (fun h=>h) (fun hb=>⟨m,by rw[hg];simp,by rw[tB,bp],hb⟩));have n1:Next Z ψ st.heap.get w w0.heap.size O (fun _=>False) (fun b=>Z b∨ob (ψ m)=some b) ψ (st.heap.del m).get w:=⟨fun b hb=>.inl hb,fun b hb=>hb.imp (fun h=>h) (fun hb=>.inl ⟨m,by rw[hg];simp,hb⟩),cP.refl _ _ _,fun i hi=>by obtain⟨o,ho⟩:=acb.1 hi;simp_all,gg⟩;refine⟨_,k.next (fun id h=>h.elim) n1,⟨fun d=>?_,t.size,t.defers⟩⟩;rw[tN _ rfl];have hr:=t.rep d;by_cases hv:look st.tmps d=.bL m
   ·rw[hv]at hr ⊢;simp only[aC]at hr;have hu:=hr.2 (by rw[hg];simp);simp only[A4,if_true,aC]
    grind [wF]
   ·have hf:A4 m (.sl false kk xs) (look st.tmps d)=look st.tmps d:=by
     unfold A4
     grind
    rw[hf];exact n1.rep g (Kn (fun _ h=>h) _) hr
  grind
 grind
theorem TK{n:Nat}{a:Act}(o:Option Shape){st:St}(k:Ok Z0 w0 O ψ0 Z ψ st.heap.get w)(t:cT Z ψ st.heap.get w n (look st.tmps) a):∃Z',Ok Z0 w0 O ψ0 Z' ψ (JI o st).heap.get w∧cT Z' ψ (JI o st).heap.get w n (look (JI o st).tmps) a:=by
 unfold JI
 split
 ·rename_i sh;generalize sh.rows=l
  induction l generalizing Z st with
  |nil=>grind
  |cons p r ih =>obtain⟨Z1,k1,t1⟩:=Yk p.1 k t;exact ih k1 t1
 grind
theorem sr(V:Env P Eqs Sg F)(hm:P.follows .mixedOrders=true){n:Nat}{ann:Nat→Option Shape}{J:(sh:Shape)→List Item→sh.T→Option R}{ret:St→Option R}{r:R}{b:Frame}{cs:List Frame}{vN:Act→World→Prop} (hJ:∀sh c k x Z ψ a w,J sh (.inLoop c::k) x=some r→Ok Z0 w0 O ψ0 Z ψ (az sh x).heap.get w→cT Z ψ (az sh x).heap.get w n (look (az sh x).tmps) a→Reach P b cs vN (lone (b.at a (.code c::.inLoop c::k)) cs w)) (uI:∀st Z ψ a w,ret st=some r→Ok Z0 w0 O ψ0 Z ψ st.heap.get w→cT Z ψ st.heap.get w n (look st.tmps) a→vN a w) :
  ∀(fu:Nat) (items:List Item) (st:St) (Z:Nat→Prop) (ψ:Nat→Value) (a:Act) (w:World),aG P Eqs Sg F n ann J ret fu items st=some r→Ok Z0 w0 O ψ0 Z ψ st.heap.get w→cT Z ψ st.heap.get w n (look st.tmps) a → Reach P b cs vN (lone (b.at a items) cs w)
 |0,items,st,Z,ψ,a,w,hx,k,t=>by
  grind [aG]
 |fu+1,[],st,Z,ψ,a,w,hx,k,t=>⟨a,w,[],uI st Z ψ a w (by grind [aG]) k t,.one step_end⟩
 |fu+1,it::Ss,st,Z,ψ,a,w,hx,k,t=>by
  have ih:=sr V hm (ann:=ann) hJ uI fu;have loop:∀c,(match ann (tu c) with
    |none=>none
    |some sh=>match cM sh st with
     |some x=>J sh (.inLoop c::Ss) x
     |none=>none)=some r→Reach P b cs vN (lone (b.at a (.code c::.inLoop c::Ss)) cs w):=fun c hx=>by
   grind [gL]
  cases it with
  |inBlock id=>exact .head step_inBlock (ih Ss st Z ψ a w (by grind [aG]) k t)
  |inScope c=>exact .head step_inScope (ih Ss st Z ψ a w (by grind [aG]) k t)
  |inLoop c=>exact .head step_inLoop (loop c (by grind [aG]))
  |code c =>
   cases c with
   |skip=>exact .head step_skip (ih Ss st Z ψ a w (by grind [aG]) k t)
   |label l=>exact .head step_label (ih Ss st Z ψ a w (by grind [aG]) k t)
   |seq x y=>exact .head step_seq (ih _ st Z ψ a w (by grind [aG]) k t)
   |cond c x y =>
    simp only[aG]at hx
    split at hx
    ·rename_i tt ht;have h1:=so t c;rw[ht]at h1;simp only[aC]at h1
     cases tt with
     |true=>exact .head (step_cond h1) (ih _ st Z ψ a w hx k t)
     |false=>exact .head (step_cond h1) (ih _ st Z ψ a w hx k t)
    ·cases hx
   |scope c=>exact .head step_scope (ih _ st Z ψ a w (by grind [aG]) k t)
   |block id c=>exact .head step_block (ih _ st Z ψ a w (by grind [aG]) k t)
   |loop c =>
    simp only[aG]at hx
    cases fu with
    |zero=>grind [aG]
    |succ fu=>exact .head step_loop (loop c (by grind [aG]))
   |exit id =>
    simp only[aG]at hx
    split at hx
    ·rename_i k' hk;exact .head (step_exit hk) (ih _ st Z ψ a w hx k t)
    ·cases hx
   |ret=>exact⟨a,w,_,uI st Z ψ a w (by grind [aG]) k t,.one step_ret⟩
   |region id ops draw =>simp only[aG]at hx;obtain⟨Zf,k,t⟩:=TK (ann (500000+id)) k t;have hw:=Ig V hm (Q:=fun e a w=>e=.normal∧∃eQ Z ψ,aG P Eqs Sg F n ann J ret fu Ss eQ=some r∧Ok Z0 w0 O ψ0 Z ψ eQ.heap.get w∧cT Z ψ eQ.heap.get w n (look eQ.tmps) a) hx k t (fun eQ Z ψ a w h1 h2 h3=>⟨rfl,eQ,Z,ψ,h1,h2,h3⟩);obtain⟨e,a',w',⟨rfl,eQ,Z',ψ',h1,h2,h3⟩,Tk⟩:=hw b Ss cs;exact .steps Tk (ih Ss eQ Z' ψ' a' w' h1 h2 h3)
   |_=>grind [aG]
  |_=>grind [aG]
theorem ss{hh:Heap}{n:Nat}{s:List (Nat×AV)}{a:Act}(g:Good Z ψ hh.get w B0 O)(t:cT Z ψ hh.get w n (look s) a):∀(l:List ResultVar) (acc:Array Value) (vs:List AV),Ac P hh s l=some vs → ∃us,(l.foldlM (fun(bs:Array Value) r=>do let y ←(match r with | .tmp t=>pure (a.tmps.getD t undef) | .cell p ty=>do loadVar ty (←asAddr (a.tmps.getD p undef)):Sem Value);pure (bs.push y)) acc:Sem (Array Value)).run P w=.ok (acc++us.toArray) w∧ax Z ψ hh.get w vs us
 |[],acc,vs,hx=>by
  simp only[Ac]at hx
  cases hx
  exact⟨[],by simp,by simp only[ax]⟩
 |.tmp d::l,acc,vs,hx=>by
  simp only[Ac]at hx
  split at hx
  ·rename_i iW h1
   cases hx
   obtain⟨us,h2,h3⟩:=ss g t l (acc.push (a.tmps.getD d undef)) iW h1;refine⟨a.tmps.getD d undef::us,?_,by simp only[ax];exact⟨_,_,rfl,t.rep d,h3⟩⟩;simp only[List.foldlM_cons,Sem.run_bind,Sem.run_pure,Result.andThen_ok];rw[h2];simp
  ·cases hx
 |.cell d ty::l,acc,vs,hx=>by
  simp only[Ac]at hx
  split at hx
  ·rename_i id sz off hd
   split at hx
   ·rename_i bt cs hg
    split at hx
    ·rename_i v iW hv h1
     cases hx
     have h4:=t.rep d;rw[hd]at h4;simp only[aC]at h4;obtain⟨ad,h5,h6⟩:=h4;obtain⟨gg,ws,e1,e2,e3,e4⟩:=g.box id bt cs hg;have h7:=h6 (by rw[hg];simp);rw[e1]at h7;simp only[XT,Nat.zero_mul,Nat.zero_add]at h7;subst h7;obtain⟨V,h8,h9⟩:=kh (a:=⟨gg,off,none⟩) (e3.drop off) (fun j u hu=>by rw[cF];simp only[World.cell?,e2];rw[List.getElem?_drop]at hu;simpa using hu) hv;have pY:(loadVar ty ⟨gg,off,none⟩).run P w=.ok V w:=by have:=h8;simpa[Instr.loadAt,Instr.sureAddr] using this
     obtain⟨us,h2,h3⟩:=ss g t l (acc.push V) iW h1;refine⟨V::us,?_,by simp only[ax];exact⟨_,_,rfl,h9,h3⟩⟩;have E6:(asAddr (a.tmps.getD d undef)).run P w=.ok ⟨gg,off,none⟩ w:=by rw[h5];rfl
     simp only[List.foldlM_cons,Sem.run_bind,E6,Sem.run_pure,Result.andThen_ok,pY];rw[h2];simp
    ·cases hx
   ·cases hx
  ·cases hx
theorem Ko{fn:Func}{hh:Heap}{n:Nat}{s:List (Nat×AV)}{a:Act}{vs:List AV}(g:Good Z ψ hh.get w B0 O)(t:cT Z ψ hh.get w n (look s) a)(hx:Ac P hh s fn.results.toList=some vs) :
  ∃us v,(results fn a.tmps).run P w=.ok v w∧ax Z ψ hh.get w vs us∧v=(if us.length=1 then us.headD undef else .tuple us.toArray):=by
 obtain⟨us,h1,h2⟩:=ss (P:=P) g t fn.results.toList #[] vs hx;refine⟨us,_,?_,h2,rfl⟩;have h3:(fn.results.mapM fun r=>(match r with | .tmp t=>pure (a.tmps.getD t undef) | .cell p ty=>do loadVar ty (←asAddr (a.tmps.getD p undef)):Sem Value)).run P w=.ok us.toArray w:=by simp_all [Array.mapM_eq_foldlM,Array.foldlM_toList]
 have h4:results fn a.tmps=(do
   let vs ←fn.results.mapM fun r=>(match r with | .tmp t=>pure (a.tmps.getD t undef) | .cell p ty=>do loadVar ty (←asAddr (a.tmps.getD p undef)):Sem Value)
   pure (if h:vs.size=1 then vs[0] else .tuple vs)):=rfl
 rw[h4,Sem.run_bind,h3,Result.andThen_ok,Sem.run_pure];congr 1;by_cases h5:us.length=1
 ·obtain⟨u,rfl⟩:=List.length_eq_one_iff.1 h5;simp
 simp_all
theorem gM:∀(ps:List PK) (ids:List Nat) (s:Nat) (x:JC (lF ps)) (us:List Value),ax Z ψ h w ((aX ps ids s x).map (·.2)) us→us.length=ps.length∧∀p∈aX ps ids s x,∃j u,p.1=s+j∧us[j]? = some u∧aC Z ψ h w p.2 u
 |[],ids,s,x,us,hr=>by simp only[aX,List.map_nil,ax]at hr;subst hr;exact⟨rfl,fun p hp=>by simp[aX]at hp⟩
 |.val k::ps,ids,s,x,us,hr=>by
  simp only[aX,List.map_cons,ax]at hr;obtain⟨u,jt,rfl,h1,h2⟩:=hr;obtain⟨h3,h4⟩:=gM ps ids (s+1) x.2 jt h2;refine⟨by simp[h3],fun p hp=>?_⟩;simp only[aX]at hp;rcases abL.1 hp with rfl|hp
  ·exact⟨0,u,rfl,rfl,h1⟩
  ·obtain⟨j,u',h5,h6,h7⟩:=h4 p hp;exact⟨j+1,u',by omega,by simpa using h6,h7⟩
 |.ref::ps,i::ids,s,x,us,hr=>by
  simp only[aX,List.map_cons,ax]at hr;obtain⟨u,jt,rfl,h1,h2⟩:=hr;obtain⟨h3,h4⟩:=gM ps ids (s+1) x jt h2;refine⟨by simp[h3],fun p hp=>?_⟩;simp only[aX]at hp;rcases abL.1 hp with rfl|hp
  ·exact⟨0,u,rfl,rfl,h1⟩
  ·obtain⟨j,u',h5,h6,h7⟩:=h4 p hp;exact⟨j+1,u',by omega,by simpa using h6,h7⟩
 |.ref::ps,[],s,x,us,hr=>by
  simp only[aX,List.map_cons,ax]at hr;obtain⟨u,jt,rfl,h1,h2⟩:=hr;obtain⟨h3,h4⟩:=gM ps [] (s+1) x jt h2;refine⟨by simp[h3],fun p hp=>?_⟩;simp only[aX]at hp;rcases abL.1 hp with rfl|hp
  ·exact⟨0,u,rfl,rfl,h1⟩
  ·obtain⟨j,u',h5,h6,h7⟩:=h4 p hp;exact⟨j+1,u',by omega,by simpa using h6,h7⟩
 |.own::ps,i::ids,s,x,us,hr=>by
  simp only[aX,List.map_cons,ax]at hr;obtain⟨u,jt,rfl,h1,h2⟩:=hr;obtain⟨h3,h4⟩:=gM ps ids (s+1) x jt h2;refine⟨by simp[h3],fun p hp=>?_⟩;simp only[aX]at hp;rcases abL.1 hp with rfl|hp
  ·exact⟨0,u,rfl,rfl,h1⟩
  ·obtain⟨j,u',h5,h6,h7⟩:=h4 p hp;exact⟨j+1,u',by omega,by simpa using h6,h7⟩
 |.own::ps,[],s,x,us,hr=>by
  simp only[aX,List.map_cons,ax]at hr;obtain⟨u,jt,rfl,h1,h2⟩:=hr;obtain⟨h3,h4⟩:=gM ps [] (s+1) x jt h2;refine⟨by simp[h3],fun p hp=>?_⟩;simp only[aX]at hp;rcases abL.1 hp with rfl|hp
  ·exact⟨0,u,rfl,rfl,h1⟩
  ·obtain⟨j,u',h5,h6,h7⟩:=h4 p hp;exact⟨j+1,u',by omega,by simpa using h6,h7⟩
 |.uF f m::ps,ids,s,x,us,hr=>by
  simp only[aX,List.map_cons,ax]at hr;obtain⟨u,jt,rfl,h1,h2⟩:=hr;obtain⟨h3,h4⟩:=gM ps (ids.drop m) (s+1) x jt h2;refine⟨by simp[h3],fun p hp=>?_⟩;simp only[aX]at hp;rcases abL.1 hp with rfl|hp
  ·exact⟨0,u,rfl,rfl,h1⟩
  ·obtain⟨j,u',h5,h6,h7⟩:=h4 p hp;exact⟨j+1,u',by omega,by simpa using h6,h7⟩
 |.agg m::ps,ids,s,x,us,hr=>by
  simp only[aX,List.map_cons,ax]at hr;obtain⟨u,jt,rfl,h1,h2⟩:=hr;obtain⟨h3,h4⟩:=gM ps (ids.drop m) (s+1) x jt h2;refine⟨by simp[h3],fun p hp=>?_⟩;simp only[aX]at hp;rcases abL.1 hp with rfl|hp
  ·exact⟨0,u,rfl,rfl,h1⟩
  ·obtain⟨j,u',h5,h6,h7⟩:=h4 p hp;exact⟨j+1,u',by omega,by simpa using h6,h7⟩
section
variable {An:FuncId→Nat→Option Shape}
theorem C5(V:Env P Eqs Sg F)(hm:P.follows .mixedOrders=true){f:FuncId}{g:aP}{fn:Func}{y:g.B}{b:Frame}{cs:List Frame}{vN:Act→World→Prop} (uI:∀st Z ψ a w,rZ P g fn st=some y→Ok Z0 w0 O ψ0 Z ψ st.heap.get w→cT Z ψ st.heap.get w fn.ntmps (look st.tmps) a→vN a w) :
  ∀(n:Nat) (sh:Shape) (c:Code) (k:List Item) (x:sh.T) (Z:Nat→Prop) (ψ:Nat→Value) (a:Act) (w:World),np P Eqs Sg An F f g fn n sh (.inLoop c::k) x=some y → Ok Z0 w0 O ψ0 Z ψ (az sh x).heap.get w→cT Z ψ (az sh x).heap.get w fn.ntmps (look (az sh x).tmps) a→Reach P b cs vN (lone (b.at a (.code c::.inLoop c::k)) cs w)
 |0,sh,c,k,x,Z,ψ,a,w,hx,_,_=>by simp only[np]at hx;cases hx
 |n+1,sh,c,k,x,Z,ψ,a,w,hx,ko,t=>by simp only[np]at hx;exact sr V hm (fun sh c k x Z ψ a w h1 h2 h3=>C5 V hm uI n sh c k x Z ψ a w h1 h2 h3) uI fuel _ _ Z ψ a w hx ko t
theorem Ih{n i:Nat}(h:i∈aS n):∃j,j<n∧i=1000+20*j:=by
 unfold aS at h;obtain⟨j,h1,rfl⟩:=acU.1 h
 grind
theorem TL{α:Type}{l:List α}{a:α}(h:a∈l):(a,a)∈l.zip l:=by
 induction l with
 |nil=>cases h
 |cons b r ih =>
  simp only[List.zip_cons_cons]
  grind
theorem MW(V:Env P Eqs Sg F)(hm:P.follows .mixedOrders=true){f:FuncId}{g:aP}{n:Nat}{x:g.A}{y:g.B}(hx:Mt P Eqs Sg An F f g n x=some y):Gs P f g x y:=by
 intro Z ψ0 w kV hg hr;unfold Mt at hx
 split at hx
 ·cases hx
 rename_i fn c ZT;have hf:P.funcs[f%1000]? = some fn∧fn.body=some c:=by
  unfold body at ZT;obtain⟨fn',h1,h2⟩:=ac2.1 ZT;obtain⟨c',h3,h4⟩:=ac1.1 h2
  cases h4
  exact⟨h1,h3⟩
 split at hx
 ·rename_i hle;simp only[Bool.and_eq_true,decide_eq_true_eq]at hle;obtain⟨hlen,abw⟩:=gM g.ps (aS g.bs.length) 0 x.1 kV hr;intro cs
  let b:Frame:={ (default:Frame) with fn:=f%1000,kind:=.normal }
  let a0:Act:={ tmps:=kV.toArray++Array.replicate (fn.ntmps-kV.toArray.size) undef,defers:=[] }
  have abx:Frame.enter P (f%1000) kV.toArray .normal=b.at a0 [.code c]:=by simp[Frame.enter,Frame.at,hf.1,hf.2,b,a0]
  have ok0:Ok Z w (Own ψ0 (rh g x)) ψ0 Z ψ0 (entry g x).heap.get w :=⟨hg,fun _ h=>h,fun _ h=>.inl h,rfl,rfl,rfl,acW _,fun _ _ _=>rfl,fun _ _ _=>rfl⟩;have tr0:cT Z ψ0 (entry g x).heap.get w fn.ntmps (look (entry g x).tmps) a0:=by
   refine fa (fun p hp=>?_) (by simp[a0];omega) rfl;obtain⟨j,u,h1,h2,h3⟩:=abw p hp;rw[h1];have hj:j<kV.length:=(abJ.1 h2).1;have:a0.tmps.getD (0+j) undef=u:=by rw[Nat.zero_add,Array.getD_eq_getD_getElem?];simp only[a0];rw[Array.getElem?_append_left (by simpa using hj)];simp[h2]
   rw[this];exact h3
  have uI:∀st Z1 oC a w1,rZ P g fn st=some y→Ok Z w (Own ψ0 (rh g x)) ψ0 Z1 oC st.heap.get w1→cT Z1 oC st.heap.get w1 fn.ntmps (look st.tmps) a → a.defers=[]∧∃v,(results fn a.tmps).run P w1=.ok v w1∧∃v' Z' ψ',Ending.returned v=.returned v'∧(∀b,Z b→Z' b)∧(∀b,Z' b→Z b∨Own ψ0 (rh g x) b∨w.heap.size≤b)∧cP ψ0 (rh g x) w w1 ∧ Good Z' ψ' (kW g y).get w1 w.heap.size (Own ψ0 (rh g x))∧(∀i∈aS g.bs.length,ψ' i=ψ0 i)∧aC Z' ψ' (kW g y).get w1 (fk (aZ g.rs (aS g.bs.length) 2000 3000 y.1)) v':=by
   intro st Z1 oC a w1 uI k t;refine⟨t.defers,?_⟩;unfold rZ at uI
   split at uI
   ·cases uI
   rename_i vs tz
   split at uI
   ·rename_i y1 y2 hd hb Fg
    cases uI
    simp only[Bool.and_eq_true]at Fg;obtain⟨Km,H5⟩:=Fg;obtain⟨us,v,h1,h2,h3⟩:=Ko (P:=P) k.dv t tz;have ZS:(aS g.bs.length).length=g.bs.length:=by simp[aS]
    let L:List Ao:=cC g.bs st.heap (aS g.bs.length) (aS g.bs.length) 2000 y2++cJ g.rs vs 3000 y1
    have eH:dP L=kW g (y1,y2):=by show dP (_++_)=_;rw[nJ,jI _ _ _ _ _ _ hb ZS,gR];rfl
    have eN:L.map (·.1)=rQ g:=by show(_++_:List Ao).map _=_;rw[List.map_append,iu _ _ _ _ _ _ hb ZS,fW];rfl
    have eS:L.filterMap (·.2.1)=dd g.bs st.heap (aS g.bs.length)++dS g.rs vs:=by show(_++_:List Ao).filterMap _=_;rw[List.filterMap_append,kT _ _ _ _ _ _ hb ZS,jw _ _ _ _ hd]
    have hn:ck (L.map (·.1))=true:=by rw[eN];exact H5
    have j4:=Bz (ψ:=oC) hn;have hz:∀b,Z1 b→rJ Z1 oC st.heap.get (gE g.rs vs++gD g.bs st.heap (aS g.bs.length)) b:=fun b hb=>.inl hb;have Jw:=(tJ Km).2 st.heap;have g':Good (rJ Z1 oC st.heap.get (gE g.rs vs++gD g.bs st.heap (aS g.bs.length))) (eZ oC L) (dP L).get w1 w.heap.size (Own ψ0 (rh g x)):=by
     refine yL k.dv Km hn eS fun e he=>?_;rcases acS.1 he with he|he
     ·exact mD k.dv hz g.bs _ _ 2000 y2 hb (fun id b bM h1 h2=>.inr ⟨id,abV _ bM,h1,h2⟩) (fun s hs=>Jw s (ab1 _ hs)) (fun e he=>j4 e (ab1 _ he)) e he
     ·exact km g.rs vs 3000 y1 hd (fun s hs=>Jw s (abV _ hs)) e he
    obtain⟨GD,Gv⟩:=jJ _ _ _ hb;have Oq:=tL (ids2:=aS g.bs.length) (Z':=rJ Z1 oC st.heap.get (gE g.rs vs++gD g.bs st.heap (aS g.bs.length))) (ψ':=eZ oC L) (h':=(dP L).get) k.dv hz hb ZS (fun e he=>j4 e (ab1 _ he)) g.rs vs 3000 y1 us hd (fun id b bM h1 h2=>.inr ⟨id,ab1 _ bM,h1,h2⟩) (fun e he=>j4 e (abV _ he)) h2;refine⟨v,h1,v,rJ Z1 oC st.heap.get (gE g.rs vs++gD g.bs st.heap (aS g.bs.length)),eZ oC L,rfl,fun b hb=>.inl (k.gk b hb),fun b hb=>?_,⟨k.os,k.tape,k.output,k.size,k.block⟩,by rw[←eH];exact g',fun i hi=>?_,?_⟩
    ·rcases Oo hb with h4|⟨id,h4,h5⟩
     ·exact k.eP b h4
     ·exact .inr (k.dv.live id b h4 h5).2.symm
    ·obtain⟨o,ho⟩:=kU (hh:=st.heap) g.bs (aS g.bs.length) (aS g.bs.length) 2000 y2 GD (i,i) (TL hi);rw[jv hn (List.mem_append_left _ ho)];obtain⟨j,h4,h5⟩:=Ih hi;exact k.fix i (by omega) (Gv i hi)
    ·rw[←eH];have SP:us.length=(aZ g.rs (aS g.bs.length) 2000 3000 y1).length:=Oq.length.symm;rw[h3]
     match hE:aZ g.rs (aS g.bs.length) 2000 3000 y1,us,Oq,SP with
     |[],[],Oq,_=>simp only[fk];simp only[aC];exact⟨#[],rfl,by simpa using Oq⟩
     |[e1],[u],Oq,_ =>
      simp only[ax]at Oq;obtain⟨u',jt,he,h4,_⟩:=Oq
      cases he
      simpa[fk] using h4
     |e1::e2::er,u1::u2::ur,Oq,_ =>simp only[fk,aC];exact⟨(u1::u2::ur).toArray,by simp,by simpa using Oq⟩
   ·cases uI
  have reach:=sr V hm (b:=b) (cs:=cs) (fun sh c k x Z ψ a w h1 h2 h3=>C5 V hm uI n sh c k x Z ψ a w h1 h2 h3) uI fuel _ _ Z ψ0 a0 w hx ok0 tr0;obtain⟨a',w',todo,⟨hd,v,w6,hR⟩,hs⟩:=reach;rw[←abx]at hs;exact⟨.returned v,w',_,hR,hs,rfl,rfl,hd,rfl,fn,hf.1,w6⟩
 ·cases hx
end
theorem Kp(hX:∀f g u,Sg f=some g→g.x=some u→ia P (f%1000) u){G:(f:FuncId)→(g:aP)→Option (g.A→Option g.B)}{An:FuncId→Nat→Option Shape}(EZ:∀t k,Eqs t=some k→mA P t k)(QH:∀f g,Sg f=some g→jK P (f%1000))(hm:P.follows .mixedOrders=true) (hG:∀f g u x y,Sg f=some g→G f g=some u→u x=some y→Gs P f g x y):∀(m:Nat) f g x y,Sg f=some g→Fn P Eqs Sg An G m f g x=some y→Gs P f g x y
 |0,f,g,x,y,hs,hx=>by
  simp only[Fn]at hx
  split at hx
  ·rename_i u hu;exact hG f g u x y hs hu hx
  ·cases hx
 |m+1,f,g,x,y,hs,hx=>by
  simp only[Fn]at hx
  split at hx
  ·rename_i u hu;exact hG f g u x y hs hu hx
  ·exact MW ⟨EZ,fun f g x y h1 h2=>Kp hX EZ QH hm hG m f g x y h1 h2,hX,QH⟩ hm hx
end Go.Vs
namespace Go.Vs
abbrev FT:=(f:FuncId)→(g:aP)→g.A→Option g.B
variable {P:Program} {Eqs:TypeId→Option K} {Sg:FuncId→Option aP} {R:Type}
def wo(p:Nat→Prop):Prop:=∃m,∀m',m≤m'→p m'
theorem wo.now{p:Nat→Prop}(h:∀m,p m):wo p:=⟨0,fun m _=>h m⟩
theorem wo.and{p q r:Nat→Prop}(h:wo p)(k:wo q)(hr:∀m,p m→q m→r m):wo r:=by obtain⟨a,ha⟩:=h;obtain⟨b,hb⟩:=k;exact⟨max a b,fun m hm=>hr m (ha m (by omega)) (hb m (by omega))⟩
theorem wo.imp{p r:Nat→Prop}(h:wo p)(hr:∀m,p m→r m):wo r:=by obtain⟨a,ha⟩:=h;exact⟨a,fun m hm=>hr m (ha m hm)⟩
def To(A:Nat→FT)(L:FT):Prop:=∀f g x y,L f g x=some y→wo fun m=>A m f g x=some y
def ToK{α:Type}(A:Nat→α→Option R)(L:α→Option R):Prop:=∀x y,L x=some y→wo fun m=>A m x=some y
def ToJ(A:Nat→(sh:Shape)→List Item→sh.T→Option R)(L:(sh:Shape)→List Item→sh.T→Option R):Prop:=∀sh k x y,L sh k x=some y→wo fun m=>A m sh k x=some y
theorem TM(h:Heap)(id:Nat)(f:FuncId)(vs:List AV):(∀F F':FT,jG Sg F h id f vs some=jG Sg F' h id f vs some) ∨ ∃ff g x,(∀F F':FT,F ff g x=F' ff g x→jG Sg F h id f vs some=jG Sg F' h id f vs some)∧∀F:FT,F ff g x=none→jG Sg F h id f vs some=none:=by
 unfold jG
 split
 ·simp_all
 rename_i g hg
 split
 ·simp_all
 split
 ·split
  ·split
   ·rename_i x b hx hb hp;refine .inr ⟨_,g,(x,b),fun F F' e=>by rw[e],fun F e=>by rw[e];rfl⟩
   simp_all
  ·split
   ·rename_i x b hx hb hp;refine .inr ⟨_,g,(x,b),fun F F' e=>by rw[e],fun F e=>by rw[e];rfl⟩
   simp_all
 simp_all
theorem Yl{A:Nat→FT}{L:FT}(hA:To A L){h:Heap}{id:Nat}{f:FuncId}{vs:List AV}{e:bF}(he:jG Sg L h id f vs some=some e):wo fun m=>jG Sg (A m) h id f vs some=some e:=by
 rcases TM (Sg:=Sg) h id f vs with k|⟨ff,g,x,k1,k2⟩
 ·exact .now fun m=>(k _ _).trans he
 ·cases hy:L ff g x with
  |none=>simp_all
  |some y=>exact(hA _ _ _ _ hy).imp fun m hm=>(k1 (A m) L (hm.trans hy.symm)).trans he
theorem Kq{A:Nat→FT}{L:FT}(hA:To A L){id:Nat}{h:Heap}{s:List (Nat×AV)}{o:Oper}{e:bF}(he:cY P Eqs Sg L id h s o some=some e):wo fun m=>cY P Eqs Sg (A m) id h s o some=some e:=by
 obtain⟨dst,op,type,pos,after,guard⟩:=o
 cases op with
 |call c =>
  obtain⟨callee,args,argTypes⟩:=c
  cases callee with
  |value f =>
   grind [cY,Yl]
  |builtin bi=>cases bi<;>exact .now fun m=>he
  |invoke _ _=>exact .now fun m=>he
 |unOp u _ _=>cases u<;>exact .now fun m=>he
 |makeFunc fn _ _=>cases fn<;>exact .now fun m=>he
 |makeMap _ r=>cases r<;>exact .now fun m=>he
 |next _ b=>cases b<;>exact .now fun m=>he
 |_=>exact .now fun m=>he
theorem wo.all{p:Nat→Nat→Prop}:∀(n:Nat),(∀j,j<n→wo (p j))→wo fun m=>∀j,j<n→p j m
 |0,_=>.now fun m j hj=>absurd hj (Nat.not_lt_zero _)
 |n+1,h=>(wo.all n fun j hj=>h j (by omega)).and (h n (by omega)) fun m h1 h2 j hj=>by
  grind
theorem MX{h:Heap}{x:AV}{K:Nat→AV→Heap→Option R}{KL:AV→Heap→Option R}(hK:∀v h y,KL v h=some y→wo fun m=>K m v h=some y){r:R}(he:lR h x KL=some r):wo fun m=>lR h x (K m)=some r:=by
 unfold lR at he ⊢
 split at he
 ·rename_i id
  split at he
  ·rename_i kk vk p hg
   try simp only[hg]
   cases hp:p.2 with
   |nil =>simp_all
   |cons c l =>simp only[hp,List.isEmpty_cons,cond_false]at he ⊢;have h1:=o6 he;refine(wo.all _ fun j hj=>?_).imp fun m hm=>nO (by simp) hm;simp_all
  ·cases he
 ·cases he
theorem TN{h:Heap}{x:AV}{want:Bool}{K:Nat→AV→Option R}{KL:AV→Option R}(hK:∀v y,KL v=some y→wo fun m=>K m v=some y){r:R}(he:wB h x want KL=some r):wo fun m=>wB h x want (K m)=some r:=by
 unfold wB at he ⊢
 split at he
 ·simp_all
 ·rename_i xs hv
  cases Cl:xs.isEmpty with
  |true =>simp only[Cl,cond_true]at he ⊢;have h1:=o6 he;exact(wo.all _ fun j hj=>hK _ _ (h1 j hj)).imp fun m hm=>nO (by decide) hm
  |false =>simp_all
 ·cases he
theorem C6{A:Nat→FT}{L:FT}(hA:To A L){rid:Nat}{draw:Bool}{ops:Array Oper}{b:Array Nat}{K:Nat→St→Option R}{KL:St→Option R}(hK:ToK K KL) :
  ∀(l:List (Nat×Oper)) (st:St) (r:R),bJ P Eqs Sg L rid draw ops b l st KL=some r→wo fun m=>bJ P Eqs Sg (A m) rid draw ops b l st (K m)=some r
 |[],st,r,he=>hK st r (by grind [bJ])
 |(i,o)::l,st,r,he=>by
  have ih:=C6 hA (rid:=rid) (draw:=draw) (ops:=ops) (b:=b) hK l;have run:∀st:St,(match (if draw then none else qc P (opId rid i) st o) with
    |some eQ=>bJ P Eqs Sg L rid draw ops b l eQ KL
    |none=>match (if draw then none else wA o) with
    |some x=>lR st.heap (ρ st.tmps x) fun v h=>bJ P Eqs Sg L rid draw ops b l (({ st with heap:=h }:St).put o.dst v) KL
    |none=>match (if draw then none else isNil P o) with
    |some (x,want)=>wB st.heap (ρ st.tmps x) want fun v=>bJ P Eqs Sg L rid draw ops b l (st.put o.dst v) KL
    |none=>if draw then cY P Eqs Sg L (opId rid i) (im (ahead rid (b.getD i 0) st.heap) (hM ops b i st.tmps o)) st.tmps o fun e =>
     if(gZ true rid ops b i (b.getD i 0) (hY (hM ops b i st.tmps o) (ahead rid (b.getD i 0) st.heap) e)&&mu (hM ops b i st.tmps o) e)=true then
      bJ P Eqs Sg L rid draw ops b l ({ st with heap:=match hY (hM ops b i st.tmps o) (ahead rid (b.getD i 0) st.heap) e with | .wr _ h=>h|e=>e.h st.heap }.put o.dst e.v) KL else none
     else cY P Eqs Sg L (opId rid i) st.heap st.tmps o fun e =>
     if gZ false rid ops b i (2 ^ i-1) e then bJ P Eqs Sg L rid draw ops b l ({ st with heap:=match e with | .wr _ h=>h|e=>e.h st.heap }.put o.dst e.v) KL else none)=some r →
    wo fun m=>(match (if draw then none else qc P (opId rid i) st o) with
    |some eQ=>bJ P Eqs Sg (A m) rid draw ops b l eQ (K m)
    |none=>match (if draw then none else wA o) with
    |some x=>lR st.heap (ρ st.tmps x) fun v h=>bJ P Eqs Sg (A m) rid draw ops b l (({ st with heap:=h }:St).put o.dst v) (K m)
    |none=>match (if draw then none else isNil P o) with
    |some (x,want)=>wB st.heap (ρ st.tmps x) want fun v=>bJ P Eqs Sg (A m) rid draw ops b l (st.put o.dst v) (K m)
    |none=>if draw then cY P Eqs Sg (A m) (opId rid i) (im (ahead rid (b.getD i 0) st.heap) (hM ops b i st.tmps o)) st.tmps o fun e =>
     if(gZ true rid ops b i (b.getD i 0) (hY (hM ops b i st.tmps o) (ahead rid (b.getD i 0) st.heap) e)&&mu (hM ops b i st.tmps o) e)=true then
      bJ P Eqs Sg (A m) rid draw ops b l ({ st with heap:=match hY (hM ops b i st.tmps o) (ahead rid (b.getD i 0) st.heap) e with | .wr _ h=>h|e=>e.h st.heap }.put o.dst e.v) (K m) else none
     else cY P Eqs Sg (A m) (opId rid i) st.heap st.tmps o fun e =>
     if gZ false rid ops b i (2 ^ i-1) e then bJ P Eqs Sg (A m) rid draw ops b l ({ st with heap:=match e with | .wr _ h=>h|e=>e.h st.heap }.put o.dst e.v) (K m) else none)=some r:=by
   intro st h
   split at h
   ·simp_all
   rename_i qy
   split at h
   ·rename_i x QS
    try simp only[qy,QS]
    exact MX (fun v h y hy=>ih _ y hy) h
   rename_i QS
   split at h
   ·rename_i x want hnl
    try simp only[qy,QS,hnl]
    exact TN (fun v y hy=>ih _ y hy) h
   rename_i hnl
   try simp only[qy,QS,hnl]
   cases draw with
   |true =>
    simp only[if_true]at h ⊢;rw[ma]at h;obtain⟨e,h1,h2⟩:=ac2.1 h;by_cases hc:(gZ true rid ops b i (b.getD i 0) (hY (hM ops b i st.tmps o) (ahead rid (b.getD i 0) st.heap) e)&&mu (hM ops b i st.tmps o) e)=true
    ·rw[if_pos hc]at h2;refine(Kq hA h1).and (ih _ r h2) fun m h3 h4=>?_;rw[ma,h3,Option.bind_some,if_pos hc];exact h4
    simp_all
   |false =>
    simp only[Bool.false_eq_true,if_false]at h ⊢;rw[ma]at h;obtain⟨e,h1,h2⟩:=ac2.1 h;by_cases hc:gZ false rid ops b i (2 ^ i-1) e=true
    ·rw[if_pos hc]at h2;refine(Kq hA h1).and (ih _ r h2) fun m h3 h4=>?_;rw[ma,h3,Option.bind_some,if_pos hc];exact h4
    simp_all
  simp only[bJ]at he ⊢
  split at he
  ·rename_i hg
   try simp only[hg]
   exact run _ he
  ·rename_i j want hg
   try simp only[hg]
   split at he
   ·cases he
   ·rename_i d hd
    try simp only[hd]
    split at he
    ·rename_i t ht
     try simp only[ht]
     cases t<;>cases want<;>simp only[cond_true,cond_false,if_true,if_false,Bool.false_eq_true]at he ⊢<;>first|exact run _ he|grind
    ·grind
    ·cases he
theorem Fl{A:Nat→FT}{L:FT}(hA:To A L){n rid:Nat}{ops:Array Oper}{draw:Bool}{K:Nat→St→Option R}{KL:St→Option R}(hK:ToK K KL){st:St}{r:R} (he:jg P Eqs Sg L n rid ops draw st KL=some r):wo fun m=>jg P Eqs Sg (A m) n rid ops draw st (K m)=some r:=by
 unfold jg at he ⊢;by_cases hc:((ops.all fun o=>jf n o)&&(!draw || (wz ops (if draw then Region.before ops else #[])&&(Cb ops (if draw then Region.before ops else #[])&&ck (ops.toList.filterMap (·.dst)))))&&decide (ops.size≤128))=true
 ·dsimp only at he ⊢
  rw[if_pos hc]at he;refine(C6 hA hK _ _ r he).imp fun m hm=>?_;simp_all
 simp_all
theorem gT{A:Nat→FT}{L:FT}(hA:To A L){n:Nat}{ann:Nat→Option Shape}{J:Nat→(sh:Shape)→List Item→sh.T→Option R}{JL:(sh:Shape)→List Item→sh.T→Option R}(hJ:ToJ J JL){ret:St→Option R} :
  ∀(fu:Nat) (items:List Item) (st:St) (r:R),aG P Eqs Sg L n ann JL ret fu items st=some r→wo fun m=>aG P Eqs Sg (A m) n ann (J m) ret fu items st=some r
 |0,items,st,r,he=>by grind [aG]
 |fu+1,[],st,r,he=>.now fun m=>by grind [aG]
 |fu+1,it::Ss,st,r,he=>by
  have ih:=gT hA (n:=n) (ann:=ann) hJ (ret:=ret) fu
  cases it with
  |inBlock id=>grind [aG]
  |inScope c=>grind [aG]
  |inLoop c =>
   simp only[aG]at he ⊢
   split at he
   ·cases he
   ·rename_i sh hsh
    try simp only[hsh]
    split at he
    ·rename_i x hx
     try simp only[hx]
     exact hJ _ _ _ _ he
    ·cases he
  |code c =>
   cases c with
   |cond c x y =>
    simp only[aG]at he ⊢
    grind
   |exit id =>
    grind [aG]
   |ret=>exact .now fun m=>by grind [aG]
   |region id ops draw =>simp only[aG]at he ⊢;exact Fl hA (K:=fun m eQ=>aG P Eqs Sg (A m) n ann (J m) ret fu Ss eQ) (fun st y h=>ih Ss st y h) he
   |skip=>grind [aG]
   |label l=>grind [aG]
   |seq x y=>grind [aG]
   |block id c=>grind [aG]
   |scope c=>grind [aG]
   |loop c=>grind [aG]
   |_=>grind [aG]
  |_=>grind [aG]
section
variable {An:FuncId→Nat→Option Shape} {G:(f:FuncId)→(g:aP)→Option (g.A→Option g.B)}
def FLe(F F':FT):Prop:=∀f g x y,F f g x=some y→F' f g x=some y
theorem FLe.to{F F':FT}(h:FLe F F'):To (fun _=>F') F:=fun f g x y hy=>.now fun _=>h f g x y hy
theorem wo.get{p:Prop}(h:wo fun _=>p):p:=by obtain⟨m,hm⟩:=h;exact hm m (acW _)
theorem pe{F F':FT}(h:FLe F F'){f:FuncId}{g:aP}{fn:Func}:∀(n n':Nat) (sh:Shape) (k:List Item) (x:sh.T) (y:g.B),n≤n'→np P Eqs Sg An F f g fn n sh k x=some y→np P Eqs Sg An F' f g fn n' sh k x=some y
 |0,_,_,_,_,_,_,hx=>by grind [np]
 |n+1,0,_,_,_,_,hn,_=>by omega
 |n+1,n'+1,sh,k,x,y,hn,hx=>by
  cases k with
  |nil=>grind [np]
  |cons it k =>
   cases it with
   |inLoop c =>simp only[np]at hx ⊢;exact(gT h.to (J:=fun _=>np P Eqs Sg An F' f g fn n') (JL:=np P Eqs Sg An F f g fn n) (fun sh k x y hy=>.now fun _=>pe h n n' sh k x y (by omega) hy) _ _ _ _ hx).get
   |_=>grind [np]
theorem QX{F F':FT}(h:FLe F F'){f:FuncId}{g:aP}{n n':Nat}{x:g.A}{y:g.B}(hn:n≤n')(hx:Mt P Eqs Sg An F f g n x=some y):Mt P Eqs Sg An F' f g n' x=some y:=by
 unfold Mt at hx ⊢
 split at hx
 ·cases hx
 ·rename_i fn c hb
  try simp only[hb]
  split at hx
  ·rename_i hc;simp only[if_pos hc];exact(gT h.to (J:=fun _=>np P Eqs Sg An F' f g fn n') (JL:=np P Eqs Sg An F f g fn n) (fun sh k x y hy=>.now fun _=>pe h n n' sh k x y hn hy) _ _ _ _ hx).get
  ·cases hx
theorem BG:∀m,FLe (Fn P Eqs Sg An G m) (Fn P Eqs Sg An G (m+1))
 |0,f,g,x,y,hx=>by
  grind [Fn]
 |m+1,f,g,x,y,hx=>by
  rw[Fn]at hx ⊢
  split at hx
  ·omega
  ·rename_i hu
   try simp only[hu]
   exact QX (BG m) (Nat.le_succ m) hx
theorem BH{m m':Nat}(h:m≤m'):FLe (Fn P Eqs Sg An G m) (Fn P Eqs Sg An G m'):=by
 induction h with
 |refl=>exact fun _ _ _ _ h=>h
 |step _ ih=>exact fun f g x y hx=>BG _ f g x y (ih f g x y hx)
variable (P Eqs Sg An G) in
open Classical in
noncomputable def Fix:FT:=fun f g x=>if h:∃m y,Fn P Eqs Sg An G m f g x=some y then some (Classical.choose (Classical.choose_spec h)) else none
theorem Ii:To (Fn P Eqs Sg An G) (Fix P Eqs Sg An G):=fun f g x y hy=>by
 unfold Fix at hy
 split at hy
 ·rename_i h
  cases hy
  exact⟨Classical.choose h,fun m' hm=>BH hm _ _ _ _ (Classical.choose_spec (Classical.choose_spec h))⟩
 ·cases hy
theorem TO{m:Nat}{f:FuncId}{g:aP}{x:g.A}{y:g.B}(h:Fn P Eqs Sg An G m f g x=some y):Fix P Eqs Sg An G f g x=some y:=by
 have he:∃m y,Fn P Eqs Sg An G m f g x=some y:=⟨m,y,h⟩
 cases hy:Fix P Eqs Sg An G f g x with
 |none=>simp_all [Fix,dif_pos]
 |some y' =>obtain⟨m1,h1⟩:=Ii f g x y' hy;have h2:=h1 (max m m1) (by omega);have h3:=BH (show m≤max m m1 by omega) f g x y h;simp_all
variable (P Eqs Sg An G) in
open Classical in
noncomputable def Lp(f:FuncId)(g:aP)(fn:Func)(sh:Shape)(k:List Item)(x:sh.T):Option g.B :=if h:∃m y,np P Eqs Sg An (Fn P Eqs Sg An G m) f g fn m sh k x=some y then some (Classical.choose (Classical.choose_spec h)) else none
theorem TP{f:FuncId}{g:aP}{fn:Func}:ToJ (fun m=>np P Eqs Sg An (Fn P Eqs Sg An G m) f g fn m) (Lp P Eqs Sg An G f g fn):=fun sh k x y hy=>by
 unfold Lp at hy
 split at hy
 ·rename_i h
  cases hy
  exact⟨Classical.choose h,fun m' hm=>pe (BH hm) _ _ _ _ _ _ hm (Classical.choose_spec (Classical.choose_spec h))⟩
 ·cases hy
theorem ad9{m:Nat}{f:FuncId}{g:aP}{fn:Func}{sh:Shape}{k:List Item}{x:sh.T}{y:g.B}(h:np P Eqs Sg An (Fn P Eqs Sg An G m) f g fn m sh k x=some y):Lp P Eqs Sg An G f g fn sh k x=some y:=by
 have he:∃m y,np P Eqs Sg An (Fn P Eqs Sg An G m) f g fn m sh k x=some y:=⟨m,y,h⟩
 cases hy:Lp P Eqs Sg An G f g fn sh k x with
 |none=>simp_all [Lp,dif_pos]
 |some y' =>obtain⟨m1,h1⟩:=TP sh k x y' hy;have h2:=h1 (max m m1) (by omega);have h3:=pe (BH (show m≤max m m1 by omega)) m (max m m1) sh k x y (by omega) h;simp_all
theorem Ot{f:FuncId}{g:aP}{x:g.A}{y:g.B}{fn:Func}{c:Code}(hG:G f g=none)(hb:body P (f%1000)=some (fn,c))(hc:(decide (g.ps.length≤fn.ntmps)&&decide (g.bs.length≤8))=true) (h:aG P Eqs Sg (Fix P Eqs Sg An G) fn.ntmps (An f) (Lp P Eqs Sg An G f g fn) (rZ P g fn) fuel [.code c] (entry g x)=some y):Fix P Eqs Sg An G f g x=some y:=by obtain⟨m,hm⟩:=gT (Ii (P:=P) (Eqs:=Eqs) (Sg:=Sg) (An:=An) (G:=G)) (TP (f:=f) (g:=g) (fn:=fn)) _ _ _ _ h;refine TO (m:=m+1) ?_;simp_all [Fn,Mt,if_pos,Nat.le_refl]
theorem GF{f:FuncId}{g:aP}{x:g.A}{y:g.B}{u:g.A→Option g.B}(hG:G f g=some u)(h:u x=some y):Fix P Eqs Sg An G f g x=some y:=by
 refine TO (m:=0) ?_
 grind [Fn]
theorem TQ{f:FuncId}{g:aP}{fn:Func}{sh:Shape}{c:Code}{k:List Item}{x:sh.T}{y:g.B} (h:aG P Eqs Sg (Fix P Eqs Sg An G) fn.ntmps (An f) (Lp P Eqs Sg An G f g fn) (rZ P g fn) fuel (.code c::.inLoop c::k) (az sh x)=some y):Lp P Eqs Sg An G f g fn sh (.inLoop c::k) x=some y:=by obtain⟨m,hm⟩:=gT (Ii (P:=P) (Eqs:=Eqs) (Sg:=Sg) (An:=An) (G:=G)) (TP (f:=f) (g:=g) (fn:=fn)) _ _ _ _ h;refine ad9 (m:=m+1) ?_;simp only[np];refine(gT (L:=Fn P Eqs Sg An G m) (FLe.to (BG m)) (J:=fun _=>np P Eqs Sg An (Fn P Eqs Sg An G (m+1)) f g fn m) (JL:=np P Eqs Sg An (Fn P Eqs Sg An G m) f g fn m) (fun sh k x y hy=>.now fun _=>pe (BG m) m m sh k x y (acW _) hy) _ _ _ _ (hm m (acW _))).get
theorem BI(hX:∀f g u,Sg f=some g→g.x=some u→ia P (f%1000) u)(EZ:∀t k,Eqs t=some k→mA P t k)(QH:∀f g,Sg f=some g→jK P (f%1000))(hm:P.follows .mixedOrders=true) (hG:∀f g u x y,Sg f=some g→G f g=some u→u x=some y→Gs P f g x y) {f:FuncId} {g:aP} {x:g.A} {y:g.B} (hs:Sg f=some g) (h:Fix P Eqs Sg An G f g x=some y):Gs P f g x y:=by obtain⟨m,ZF⟩:=Ii f g x y h;exact Kp hX EZ QH hm hG m f g x y hs (ZF m (acW _))
end
end Go.Vs
namespace Go.Vs
open Go.Proofs
abbrev ae:=((Int×Int)×Int)
abbrev ID:=(Int×Int)
abbrev ai:=(ID×((List ae)×(ByteArray×Int)))
abbrev ak:=(ID×(ByteArray×Int))
abbrev an:=((List ai)×(List ak))
abbrev aB:=(ae×ae)
abbrev StateT:=(an×(List aB))
abbrev rj:=(ID×ae)
abbrev bj:=(Int×(ID×(ID×(ID×(rj×(rj×(Bool×(ByteArray×Int))))))))
abbrev aW:=((List ai)×((List ak)×((List aB)×Unit)))
abbrev lI{α:Type}(l:List α):Int:=((l.length:Nat):Int)
abbrev wI(n:Int):Int:=IntKind.wrap .i64 n
abbrev OI:ID:=(0,0)
abbrev OD:ae:=(OI,0)
abbrev OC:rj:=(OI,OD)
abbrev OB:ByteArray:=⟨#[]⟩
abbrev OS:StateT:=(([],[]),[])
abbrev OW:aW:=([],([],([],())))
abbrev k13:K:=(.pair .str (.int .u64))
abbrev fb:K:=(.pair (.int .i64) (.int .i64))
abbrev k68:K:=(.pair .str (.pair (.int .i64) .bool))
abbrev bm:K:=(.pair fb (.int .i64))
abbrev k7:K:=(.pair (.int .i64) (.pair (.int .i64) (.pair .bool (.int .u8))))
abbrev dx:K:=(.pair fb (.pair .str (.int .i64)))
abbrev TR:K:=(.pair fb bm)
abbrev cG:K:=(.pair bm bm)
abbrev cZ:K:=(.pair fb (.pair (.sl bm) (.pair .str (.int .i64))))
abbrev cU:K:=(.pair (.sl cZ) (.sl dx))
abbrev ib:K:=(.pair cU (.sl cG))
abbrev uJ:K:=(.pair (.int .i64) (.pair fb (.pair fb (.pair fb (.pair TR (.pair TR (.pair .bool (.pair .str (.int .i64)))))))))
abbrev oD:K:=(.one (.sl uJ))
def qA(xs:List ai)(ys:List ak):Bool:=decide (xs.length≤50000000)&&(decide (ys.length≤50000000)&&xs.all fun v=>decide (v.2.1.length≤50000000))
def Ij(h:Heap)(id:Nat):List AV→Option (Bool×bF)
 |[.agg [.bL a,.bL b]]=>match ep h (.row 38 cZ) (.bL a),ep h (.row 84 dx) (.bL b) with
  |some xs,some ys=>if a=b then none else some (qA xs ys,.new (.agg [.bL (id+128),.bL (id+129)]) [(id+128,.own (.row 38 cZ) xs),(id+129,.own (.row 84 dx) ys)])
  |_,_=>none
 |_=>none
abbrev ad6(a:List PK)(b:List RK):aP:={ ps:=a,bs:=[],rs:=b }
abbrev aea:K:=.int .i64
def TS:=ad6 [.val ib,.val uJ] [.val ib,.val aea]
def TT:=ad6 [.val ib,.val ib] [.val .bool]
def rE:=ad6 [.val cU,.val fb] [.val cZ,.val .bool]
def A8:=ad6 [.val fb] [.val .bool]
def vO:=ad6 [.val cU,.val bm] [.val fb,.val .bool]
def yX:=ad6 [.val cU,.val fb] [.val dx,.val .bool]
def Kr:=ad6 [.val cU,.val bm] [.val (.sl bm)]
def Fm:=ad6 [.val bm] [.val bm]
def su:=ad6 [.val (.sl bm),.val bm] [.val aea]
def QY:=ad6 [.val (.sl bm),.val bm] [.val bm,.val .bool]
def C7:=ad6 [.val cU,.val cU] [.val .bool]
def yY:=ad6 [.val .str] [.val .bool]
def A9:=ad6 [.val aea] [.val .bool]
def MY:=ad6 [.val ib,.val oD] [.val ib,.val aea]
def Ks:=ad6 [.val cU] [.own (.row 36 (.sl bm))]
def Kt:=ad6 [.val cU] [.val aea]
def Ik:=ad6 [.val ib,.val oD] [.val ib,.val aea]
def w7:=ad6 [.val ib,.val oD] [.val ib]
def QZ:=ad6 [.val ib,.val oD] [.val ib]
def Fp:=ad6 [.val cU] [.agg [.own (.row 38 cZ),.own (.row 84 dx)]]
def Il:=ad6 [.val cU] [.val aea]
def Ku:=ad6 [.val oD] [.val aea]
def TU:=ad6 [.val uJ] [.val aea]
def Kv:=ad6 [.val ib,.val (.sl uJ)] [.val ib,.val aea]
def Ra:=ad6 [.val uJ] [.val aea]
def Im:=ad6 [.val cU,.val cZ] [.val cU]
def qB:=ad6 [.val cU,.val fb,.val fb] [.val cU]
def TV:=ad6 [.val ib,.val uJ] [.val ib,.val aea]
def TW:=ad6 [.val ib,.val uJ] [.val ib,.val aea]
def TX:=ad6 [.val ib,.val uJ] [.val ib,.val aea]
def Ba:=ad6 [.val ib,.val uJ] [.val ib,.val aea]
def C8:=ad6 [.val ib,.val uJ] [.val ib,.val aea]
def Io:=ad6 [.val (.sl cG),.val (.sl cG)] [.val .bool]
def Rb:=ad6 [.val cU,.val bm] [.val bm,.val .bool]
def Fq:=ad6 [.val cU,.val fb] [.val aea]
def uK:=ad6 [.val cU] [.own (.row 3 aea)]
def Ip:=ad6 [.val (.sl bm),.val (.sl bm)] [.val .bool]
def Kw:=ad6 [.val oD] [.val aea]
def Iq:=ad6 [.val cU] [.own (.row 40 bm)]
def Ir:=ad6 [.val cU] [.agg [.own (.row 38 cZ),.own (.row 84 dx)]]
def Kx:=ad6 [.val (.sl cG)] [.own (.row 42 cG)]
def Rc:=ad6 [.val bm,.val bm] [.val aea]
def rF:=ad6 [.val cU] [.val aea]
def Is:=ad6 [.val cU] [.val aea]
def TY:=ad6 [.val uJ] [.val uJ,.val aea]
def It:aP:={ ps:=[.ref,.val uJ],bs:=[.box 128 [.own (.row 38 cZ),.own (.row 84 dx),.val (.sl cG)]],rs:=[.val aea] }
def Rd:=ad6 [.val uJ] [.val uJ]
def Re:=ad6 [.val TR] [.val .bool]
def Iu:=ad6 [.val fb,.val fb] [.val aea]
def Rf:=ad6 [.val ib,.val TR] [.val TR,.val aea]
def Bb:=ad6 [.val cU,.val dx] [.val cU]
def Bc:=ad6 [.val cU,.val TR,.val bm] [.val cU]
def Be:=ad6 [.val (.sl cG),.val cG] [.val (.sl cG)]
def Rg:=ad6 [.val cU,.val bm] [.val bm]
def Rh:=ad6 [.val cU,.val bm] [.val cU]
def Ky:=ad6 [.val cU,.val bm,.val bm] [.val cU]
def qC:=ad6 [.val (.sl bm)] [.own (.row 40 bm)]
def TZ:=ad6 [.val cU,.val bm] [.val bm,.val .bool]
def Ri:=ad6 [.val (.sl cZ)] [.own (.row 38 cZ)]
def Rj:=ad6 [.val (.sl dx)] [.own (.row 84 dx)]
def Bf:=ad6 [.val (.sl bm)] [.own (.row 40 bm)]
def Bg:=ad6 [.val cU] [.val (.sl fb)]
def w9:=ad6 [.val (.sl fb)] [.val .bool]
def lU:=ad6 [.val cU] [.val .bool]
def Ix:=ad6 [.val cU] [.val aea,.val aea,.val aea,.val aea]
def rG:=ad6 [.val fb] [.val .bool]
def Fs:=ad6 [.val TR] [.val .bool]
def xc:=ad6 [.val .str] [.val .bool]
def Iy:=ad6 [.val aea] [.val .bool]
def Kz:aP:={ ps:=[.ref,.val cZ],bs:=[.box 128 [.own (.row 38 cZ),.own (.row 84 dx),.val (.sl cG)]],rs:=[.val aea] }
def T0:aP:={ ps:=[.ref,.val uJ],bs:=[.box 128 [.own (.row 38 cZ),.own (.row 84 dx),.val (.sl cG)]],rs:=[.val aea] }
def qD:aP:={ ps:=[.ref,.val uJ],bs:=[.box 128 [.own (.row 38 cZ),.own (.row 84 dx),.val (.sl cG)]],rs:=[.val aea] }
def C9:aP:={ ps:=[.ref,.val uJ],bs:=[.box 128 [.own (.row 38 cZ),.own (.row 84 dx),.val (.sl cG)]],rs:=[.val aea] }
def Bh:aP:={ ps:=[.ref,.val uJ],bs:=[.box 128 [.own (.row 38 cZ),.own (.row 84 dx),.val (.sl cG)]],rs:=[.val aea] }
def sw:aP:={ ps:=[.ref,.val uJ],bs:=[.box 128 [.own (.row 38 cZ),.own (.row 84 dx),.val (.sl cG)]],rs:=[.val aea] }
def T1:aP:={ ps:=[.ref,.val uJ],bs:=[.box 128 [.own (.row 38 cZ),.own (.row 84 dx),.val (.sl cG)]],rs:=[.val aea] }
def T2:=ad6 [.val bm] [.val .bool]
def KA:=ad6 [.val ib,.val bm] [.val bm]
def Ft:=ad6 [.val cU,.val fb,.val (.sl bm)] [.val cU]
def AB:=ad6 [.val (.sl bm),.val bm,.val bm] [.own (.row 40 bm)]
def vd:=ad6 [.val (.sl cG),.val bm] [.val bm,.val .bool]
def AD:=ad6 [.val (.sl bm),.val bm] [.own (.row 40 bm)]
def KB:=ad6 [.val (.sl bm),.val bm,.val bm] [.own (.row 40 bm)]
def KC:=ad6 [.val (.sl bm),.val bm] [.val bm,.val .bool]
def pf:=ad6 [.val cU,.val bm] [.val aea]
def KD:=ad6 [.val bm] [.val .bool]
def rk:aP:={ ps:=[.ref,.val fb],bs:=[.box 128 [.own (.row 38 cZ),.own (.row 84 dx),.val (.sl cG)]],rs:=[.val aea,.val .bool] }
def ZU:aP:={ ps:=[],bs:=[],rs:=[],x:=some (SI 38 cZ) }
def ZV:aP:={ ps:=[],bs:=[],rs:=[],x:=some (XR 38 cZ) }
def AE:aP:={ ps:=[.ref,.val fb],bs:=[.box 128 [.own (.row 38 cZ),.own (.row 84 dx),.val (.sl cG)]],rs:=[.val aea] }
def Da:=ad6 [.val fb] [.val bm,.val bm]
def KE:=ad6 [.val ib,.val TR] [.val TR,.val aea]
def Db:=ad6 [.val (.sl bm),.val bm,.val bm] [.own (.row 40 bm)]
def AF:=ad6 [.val cU] [.val .bool]
def nQ:aP:={ ps:=[.ref,.val fb],bs:=[.box 128 [.own (.row 38 cZ),.own (.row 84 dx),.val (.sl cG)]],rs:=[.val aea,.val .bool] }
def Dc:aP:={ ps:=[.ref,.val bm,.val bm],bs:=[.box 128 [.own (.row 38 cZ),.own (.row 84 dx),.val (.sl cG)]],rs:=[] }
def Dd:aP:={ ps:=[.ref,.val bm],bs:=[.box 128 [.own (.row 38 cZ),.own (.row 84 dx),.val (.sl cG)]],rs:=[.val bm] }
def mN:aP:={ ps:=[.ref,.val bm],bs:=[.box 128 [.own (.row 38 cZ),.own (.row 84 dx),.val (.sl cG)]],rs:=[.eX 0 [(0,5,0)]] }
def KF:=ad6 [.val (.sl bm),.val bm] [.own (.row 40 bm)]
def ZW:aP:={ ps:=[],bs:=[],rs:=[],x:=some (XR 84 dx) }
def ve:=ad6 [.val (.sl bm),.val bm,.val bm] [.own (.row 40 bm)]
def pj:=ad6 [.val bm] [.val bm]
def rl:=ad6 [.val (.sl bm)] [.own (.row 40 bm)]
def KG:aP:={ ps:=[.ref,.val uJ],bs:=[.box 128 [.own (.row 38 cZ),.own (.row 84 dx),.val (.sl cG)]],rs:=[.eX 0 [(0,5,3),(1,4,2)],.eX 0 [(0,5,4),(1,4,3)]] }
def GG:=ad6 [.val cZ,.val fb] [.val aea]
def AG:=ad6 [.val fb,.val fb] [.val aea]
def ZX:aP:={ ps:=[],bs:=[],rs:=[],x:=some (SI 84 dx) }
def KH:=ad6 [.val cU,.val fb] [.val cZ,.val .bool]
def AH:=ad6 [.val ib,.val bm] [.val bm]
def xd:=ad6 [.val (.sl bm),.val bm] [.val .bool]
def mO:=ad6 [.val (.sl bm),.val bm] [.val aea]
def pn:=ad6 [.val (.sl (.sl bm))] [.own (.row 40 bm)]
def KI:=ad6 [.val cU] [.val aea]
def GH:=ad6 [.val dx,.val fb] [.val aea]
def KJ:=ad6 [.val (.sl cG),.val cG] [.own (.row 42 cG)]
def GI:=ad6 [.val (.sl bm),.val bm] [.val bm,.val .bool]
def GJ:=ad6 [.val bm,.val bm] [.val aea]
def pw:=ad6 [.val (.sl (.sl bm))] [.own (.row 40 bm)]
def xe:=ad6 [.val (.sl aea)] [.val aea]
def De:=ad6 [.val aea,.val aea] [.val aea]
def Df:=ad6 [.val cZ] [.val fb]
def xf:=ad6 [.val cU,.val bm] [.val fb,.val .bool]
def KK:=ad6 [.val (.sl cG),.val bm] [.val bm,.val .bool]
def KM:=ad6 [.val cU] [.val aea,.val aea,.val aea,.val aea]
def GK:=ad6 [.val cG,.val bm] [.val aea]
def ZY:aP:={ ps:=[],bs:=[],rs:=[],x:=some (SI 42 cG) }
def Dg:=ad6 [.val (.sl bm),.val bm,.val aea] [.val bm,.val .bool]
def ZZ:aP:={ ps:=[],bs:=[],rs:=[],x:=some (SJ 40 bm) }
def Dh:=ad6 [.val aea] [.val .bool]
def KN:aP:={ ps:=[.val cG,.ref],bs:=[.box 40 [.val aea,.val aea,.val aea]],rs:=[.val .bool] }
def KO:=ad6 [.val cZ] [.val .bool]
def AI:=ad6 [.val cU] [.own (.row 36 (.sl bm))]
def AJ:=ad6 [.val cU] [.val aea]
def xg:=ad6 [.val cU] [.own (.row 40 bm)]
def aaa:=ad6 [.val cU] [.own (.row 163 (.sl fb))]
def GL:=ad6 [.val cU,.val bm] [.val bm,.val .bool]
def iC:=ad6 [.val cU] [.own (.row 3 aea)]
def AK:=ad6 [.val cU,.val bm] [.val bm,.val .bool]
def KP:aP:={ ps:=[.own,.val aea,.val aea],bs:=[.own (.row 3 aea)],rs:=[] }
def sx:aP:={ ps:=[.own,.val aea],bs:=[.own (.row 3 aea)],rs:=[.val aea] }
def KQ:=ad6 [.val (.sl bm),.val bm] [.val bm,.val .bool]
def jM:=ad6 [.val (.sl cZ),.val fb,.uF 188 0] [.val aea,.val .bool]
def jN:=ad6 [.val (.sl dx),.val fb,.uF 198 0] [.val aea,.val .bool]
def lf:=ad6 [.val (.sl bm),.uF 73 0] [.val bm]
def lg:=ad6 [.val (.sl cZ),.uF 135 0,.val fb] [.val cZ,.val .bool]
def jO:=ad6 [.val (.sl cG),.val bm,.uF 219 0] [.val aea,.val .bool]
def jP:aP:={ ps:=[.val (.sl cG),.uF 231 1],bs:=[.box 40 [.val bm]],rs:=[.val aea] }
def lh:=ad6 [.val (.sl cZ),.uF 206 0] [.val aea]
def KR:aP:={ ps:=[],bs:=[],rs:=[],x:=some Ij }
def T3:=ad6 [] []
abbrev k98:K:=(.pair oD fb)
abbrev k99:K:=(.pair ib (.pair aea (.sl oD)))
abbrev g6:=(StateT×(Int×((List (List bj))×Unit)))
abbrev Q47:=(((List Int)×(Int×Unit))×Unit)
abbrev Q48:=((Int×(StateT×(Int×Unit)))×Unit)
abbrev Q49:=((Int×((List Int)×(Bool×Unit)))×Unit)
abbrev Q50:=((Int×Unit)×(((List Int)×(Bool×Unit))×Unit))
abbrev Q51:=((ID×((List Int)×(Bool×Unit)))×Unit)
abbrev GM:=(((List Int)×Unit)×Unit)
abbrev Q44:=((Bool×Unit)×((Unit×Unit)×Unit))
abbrev Q45:=(((List Bool)×Unit)×Unit)
abbrev Q46:=((Int×Unit)×((Unit×Unit)×Unit))
abbrev Q40:=((List bj)×ID)
abbrev Q41:=(((List (List bj))×(Int×Unit))×(g6×Unit))
abbrev Q42:=((StateT×Unit)×(g6×Unit))
abbrev Q0:=((Bool×Unit)×Unit)
abbrev Q1:=((StateT×(Int×Unit))×Unit)
abbrev Q2:=((Int×Unit)×Unit)
abbrev Q3:=(((List bj)×Unit)×Unit)
abbrev Q4:=((StateT×Unit)×Unit)
abbrev Q5:=((an×Unit)×Unit)
abbrev Q6:=(((List ae)×Unit)×Unit)
abbrev Q7:=((ai×(Bool×Unit))×Unit)
abbrev Q8:=(List bj)
abbrev Q9:=((Int×Unit)×(g6×Unit))
abbrev Q10:=((ak×(Bool×Unit))×Unit)
abbrev Iz:=((ae×Unit)×Unit)
abbrev Ou:=((ae×(Bool×Unit))×Unit)
abbrev XB:=((ID×(Bool×Unit))×Unit)
abbrev MZ:=((Int×(Bool×Unit))×(aW×Unit))
abbrev Q15:=((StateT×(bj×Unit))×Unit)
abbrev Q16:=((StateT×((List bj)×Unit))×Unit)
abbrev Q17:=(((List (List bj))×Unit)×Unit)
abbrev Ym:=(((List aB)×Unit)×Unit)
abbrev T4:=((Int×Unit)×(aW×Unit))
abbrev XC:=((an×(ae×Unit))×Unit)
abbrev Yn:=(((List ae)×(ae×Unit))×Unit)
abbrev Q22:=((bj×Unit)×(aW×Unit))
abbrev Q23:=((StateT×Unit)×((List (List bj))×Unit))
abbrev Q24:=(((List bj)×(Int×Unit))×Unit)
abbrev Q25:=(((List (List ae))×Unit)×Unit)
abbrev Q26:=((((List ai)×((List ak)×Unit))×Unit)×Unit)
abbrev Q27:=((rj×Unit)×Unit)
abbrev Q28:=((Int×(Int×Unit))×(g6×Unit))
abbrev Q29:=((StateT×((List (List bj))×Unit))×Unit)
abbrev Q30:=((an×(ID×Unit))×Unit)
abbrev Q31:=(((Option ((Fin 1)×Nat))×Unit)×(aW×Unit))
abbrev Q32:=(Unit×(g6×Unit))
abbrev Q33:=((ae×(ae×Unit))×Unit)
abbrev Q34:=(((List ae)×(ae×(ae×Unit)))×Unit)
abbrev Q35:=((Int×Unit)×((List Int)×Unit))
abbrev Q36:=((StateT×(Int×Unit))×(g6×Unit))
abbrev Q37:=(((List Bool)×Unit)×((List (List bj))×Unit))
abbrev Q38:=((Bool×(Int×Unit))×(((StateT×Unit)×((bj×Unit)×(aW×(((List ai)×((List ak)×Unit))×Unit))))×Unit))
abbrev Q39:=((Int×Unit)×((aW×((ae×Unit)×((ae×Unit)×((ae×Unit)×Unit))))×Unit))
def apT(_:Heap)(id:Nat):List AV→Option (Bool×bF)
 |[]=>some (true,.new (.ref (id+128) 0 0 0) [(id+128,.box 94 (enc k99 (mo k99)))])
 |_=>none
def ajQ(h:Heap)(_:Nat):List AV→Option (Bool×bF)
 |[.ref i 0 0 0]=>match JE h i 94 with
  |some cs=>match dz k99 cs with
   |some x=>some (true,.val (.int .i64 x.2.1))
   |none=>none
  |none=>none
 |_=>none
def anZ(h:Heap)(id:Nat):List AV→Option (Bool×bF)
 |[.ref i 0 0 0]=>match JE h i 94 with
  |some cs=>match dz k99 cs with
   |some x=>some (true,.new (.ref (id+128) 0 0 0) [(id+128,.box 94 (enc k99 x))])
   |none=>none
  |none=>none
 |_=>none
def T5(_:Heap)(_:Nat):List AV→Option (Bool×bF)
 |[.sl _ k xs]=>some (true,.val (.sl true k xs))
 |[.fO]=>some (true,.val .fO)
 |_=>none
def KS:=ad6 [] [.val .bool]
def xh:=ad6 [.val (.sl oD)] [.val (.sl oD)]
def KT:=ad6 [.val ib,.val (.sl oD)] [.val ib]
def KU:=ad6 [.val ib,.val (.sl oD)] [.own (.row 4 .bool)]
def AL:=ad6 [.val ib,.val (.sl oD)] [.val ib]
def KV:=ad6 [.val ib,.val ib] [.val .bool]
def Di:=ad6 [.val aea] [.val oD]
def GN:=ad6 [.val ib,.val oD] []
def GO:aP:={ ps:=[.val ib,.val oD,.ref],bs:=[.box 45 [.own (.row 4 .bool)]],rs:=[] }
def Ov:=ad6 [.val (.sl (.int .u8)),.val (.sl (.int .u8))] [.val .bool]
def nR:=ad6 [.val ib] [.own (.row 5 (.int .u8))]
def lM:=ad6 [.val cU] [.own (.row 5 (.int .u8)),.val aea]
def GQ:=ad6 [.val (.sl (.int .u8)),.val fb] [.own (.row 5 (.int .u8))]
def KW:=ad6 [.val dx] [.val fb]
def KX:=ad6 [.val cU] [.val aea]
def GR:=ad6 [.val (.sl (.int .u8)),.val dx] [.own (.row 5 (.int .u8))]
def KY:=ad6 [.val cU] [.val aea]
def vf:=ad6 [.val (.sl (.int .u8)),.val aea] [.own (.row 5 (.int .u8))]
def KZ:=ad6 [.val (.sl (.int .u8)),.val .str] [.own (.row 5 (.int .u8))]
def xi:=ad6 [.val (.sl fb)] [.val .bool]
def lN:=ad6 [.val cU] [.val .bool]
def GS:=ad6 [.val .str,.val aea] [.val .bool]
def GU:=ad6 [.val .str,.val aea] [.val .bool]
def aad:aP:={ ps:=[],bs:=[],rs:=[],x:=some T5 }
def AM:=ad6 [.val (.sl bm),.val (.sl bm)] [.val .bool]
def lj:=ad6 [.val ib,.val (.sl oD),.uF 36 0] [.val ib]
def lk:aP:={ ps:=[.val ib,.val (.sl oD),.uF 39 1],bs:=[.box 45 [.own (.row 4 .bool)]],rs:=[.val ib] }
def sy:aP:={ ps:=[.val ib,.own],bs:=[.own (.row 61 oD)],rs:=[.val ib] }
def sB:aP:={ ps:=[.val ib,.own],bs:=[.own (.row 61 oD)],rs:=[.own (.row 4 .bool)] }
def ll:aP:={ ps:=[.val ib,.own,.uF 36 0],bs:=[.own (.row 61 oD)],rs:=[.val ib] }
def ln:aP:={ ps:=[.val ib,.own,.uF 39 1],bs:=[.own (.row 61 oD),.box 45 [.own (.row 4 .bool)]],rs:=[.val ib] }
def Rk:=ad6 [] []
def Rl:=ad6 [] []
def T6:=ad6 [] []
def Rm:=ad6 [] []
def lp:=ad6 [.val (.sl cZ),.uF 135 0] [.own (.row 35 fb)]
def lq:=ad6 [.val (.sl dx),.uF 137 0] [.own (.row 35 fb)]
def sD:=ad6 [.val cU,.uF 140 0] [.val .bool]
def sE:=ad6 [.val cU,.uF 142 0] [.val .bool]
def iD:aP:={ ps:=[.val (.sl cZ),.uF 180 1],bs:=[.box 169 [.val (.fn 140)]],rs:=[.val .bool] }
def iE:aP:={ ps:=[.val (.sl cZ),.uF 180 1],bs:=[.box 169 [.val (.fn 142)]],rs:=[.val .bool] }
def dF:aP:={ ps:=[.val (.sl cZ),.uF 180 1],bs:=[.box 169 [.val (.fn 140)]],rs:=[.val aea] }
def dG:aP:={ ps:=[.val (.sl cZ),.uF 180 1],bs:=[.box 169 [.val (.fn 142)]],rs:=[.val aea] }
def iF:aP:={ ps:=[.val (.sl dx),.uF 182 1],bs:=[.box 169 [.val (.fn 140)]],rs:=[.val .bool] }
def iG:aP:={ ps:=[.val (.sl dx),.uF 182 1],bs:=[.box 169 [.val (.fn 142)]],rs:=[.val .bool] }
def dH:aP:={ ps:=[.val (.sl dx),.uF 182 1],bs:=[.box 169 [.val (.fn 140)]],rs:=[.val aea] }
def dI:aP:={ ps:=[.val (.sl dx),.uF 182 1],bs:=[.box 169 [.val (.fn 142)]],rs:=[.val aea] }
def iH:aP:={ ps:=[.val cZ,.ref],bs:=[.box 169 [.val (.fn 140)]],rs:=[.val .bool] }
def iI:aP:={ ps:=[.val cZ,.ref],bs:=[.box 169 [.val (.fn 142)]],rs:=[.val .bool] }
def iJ:aP:={ ps:=[.val dx,.ref],bs:=[.box 169 [.val (.fn 140)]],rs:=[.val .bool] }
def iK:aP:={ ps:=[.val dx,.ref],bs:=[.box 169 [.val (.fn 142)]],rs:=[.val .bool] }
def xj:=ad6 [.val (.sl oD)] [.val .bool]
def AO:=ad6 [.val ib,.val (.sl oD)] [.own (.row 4 .bool)]
def AP:=ad6 [.val ib] [.own (.row 5 (.int .u8))]
def mP:=ad6 [.val cU] [.own (.row 5 (.int .u8)),.val aea]
def GW:=ad6 [.val (.sl (.int .u8)),.val bm] [.own (.row 5 (.int .u8))]
def sF:=ad6 [.val (.sl (.int .u8)),.val aea] [.own (.row 5 (.int .u8))]
def Dk:=ad6 [.val (.sl (.int .u8)),.val fb] [.own (.row 5 (.int .u8))]
def GX:=ad6 [.val (.sl (.int .u8)),.val .str] [.own (.row 5 (.int .u8))]
def AQ:=ad6 [.val cU,.val fb] [.val aea]
def sgs:List (Nat×aP):=[(66,TS),(14,TT),(87,rE),(104,A8),(174,vO),(123,yX),(210,Kr),(131,Fm),(170,su),(175,QY),(37,C7),(122,yY),(121,A9),(40,MY),(185,Ks),(186,Kt),(41,Ik),(62,w7),(26,QZ),(12,Fp),(69,Il),(65,Ku),(82,TU),(64,Kv),(86,Ra),(88,Im),(89,qB),(90,TV),(91,TW),(92,TX),(93,Ba),(94,C8),(38,Io),(226,Rb),(227,Fq),(211,uK),(63,Ip),(59,Kw),(209,Iq),(83,Ir),(84,Kx),(75,Rc),(98,rF),(99,Is),(108,TY),(85,It),(119,Rd),(120,Re),(105,Iu),(124,Rf),(125,Bb),(126,Bc),(127,Be),(128,Rg),(129,Rh),(130,Ky),(132,qC),(237,TZ),(109,Ri),(110,Rj),(111,Bf),(146,Bg),(147,w9),(148,lU),(149,Ix),(100,rG),(151,Fs),(141,xc),(143,Iy),(112,Kz),(113,T0),(114,qD),(115,C9),(116,Bh),(117,sw),(118,T1),(74,T2),(169,KA),(171,Ft),(172,AB),(173,vd),(176,AD),(177,KB),(243,KC),(184,pf),(72,KD),(152,rk),(153,ZU),(154,ZV),(155,AE),(156,Da),(157,KE),(158,Db),(96,AF),(159,nQ),(160,Dc),(161,Dd),(162,mN),(163,KF),(164,ZW),(165,ve),(166,pj),(167,rl),(168,KG),(188,GG),(102,AG),(191,ZX),(192,KH),(193,AH),(194,xd),(195,mO),(196,pn),(144,KI),(198,GH),(199,KJ),(200,GI),(73,GJ),(202,pw),(101,xe),(103,De),(135,Df),(216,xf),(217,KK),(183,KM),(219,GK),(220,ZY),(221,Dg),(222,ZZ),(150,Dh),(231,KN),(206,KO),(207,AI),(208,AJ),(223,xg),(225,aaa),(235,GL),(236,iC),(240,AK),(241,KP),(242,sx),(245,KQ),(189187,jM),(199197,jN),(74201,lf),(136215,lg),(220218,jO),(232230,jP),(207205,lh),(500083,KR),(900059,T3),(9,KS),(11,xh),(13,KT),(15,KU),(10,AL),(19,KV),(34,Di),(36,GN),(39,GO),(46,Ov),(17,nR),(42,lM),(43,GQ),(137,KW),(67,KX),(68,GR),(95,KY),(49,vf),(97,KZ),(133,xi),(138,lN),(140,GS),(142,GU),(145,aad),(178,AM),(37035,lj),(40035,lk),(500013,sy),(500015,sB),(537035,ll),(540035,ln),(2514003,Rk),(3537003,Rl),(900022,T6),(2769003,Rm),(136134,lp),(138136,lq),(141139,sD),(143139,sE),(14100181179,iD),(14300181179,iE),(14100181203,dF),(14300181203,dG),(14100183181,iF),(14300183181,iG),(14100183204,dH),(14300183204,dI),(14100000180,iH),(14300000180,iI),(14100000182,iJ),(14300000182,iK),(4,xj),(16,AO),(18,AP),(44,mP),(45,GW),(51,sF),(52,Dk),(70,GX),(71,AQ)]
def Sg(f:FuncId):Option aP:=(sgs.find? (fun p=>p.1==f)).map (fun p=>p.2)
def eqs:List (Nat×K):=[(35,fb),(40,bm),(98,TR),(100,uJ),(84,dx),(42,cG)]
def Eqs(t:TypeId):Option K:=(eqs.find? (fun p=>p.1==t)).map (fun p=>p.2)
def Dl:Shape:=⟨[(6,.int .i64)],[(.slot 2,20000,.box 27 [.val cU]),(.slot 3,20001,.box 35 [.val fb]),(.slot 4,20002,.box 38 [.val aea,.val aea,.own (.row 40 bm),.val .str,.val aea])],[],[]⟩
def Dm:Shape:=⟨[(6,.int .i64)],[(.slot 2,20000,.box 27 [.val cU]),(.slot 3,20001,.box 40 [.val bm]),(.slot 4,20002,.box 35 [.val fb])],[],[]⟩
def Dn:Shape:=⟨[(6,.int .i64)],[(.slot 2,20000,.box 27 [.val cU]),(.slot 3,20001,.box 35 [.val fb]),(.slot 4,20002,.box 84 [.val dx])],[],[]⟩
def Dp:Shape:=⟨[],[(.slot 2,20000,.box 27 [.val cU]),(.slot 3,20001,.box 40 [.val bm]),(.slot 6,20002,.box 40 [.val bm])],[(5,31000,(.row 40 bm))],[]⟩
def Dq:Shape:=⟨[(0,.sl bm),(5,.int .i64)],[(.slot 3,20000,.box 40 [.val bm])],[],[]⟩
def Dt:Shape:=⟨[(5,.int .i64)],[(.slot 2,20000,.box 27 [.val cU]),(.slot 3,20001,.box 27 [.val cU])],[],[]⟩
def Du:Shape:=⟨[(9,.int .i64)],[(.slot 2,20000,.box 27 [.val cU]),(.slot 3,20001,.box 27 [.val cU])],[],[]⟩
def Dv:Shape:=⟨[(0,.str),(3,.int .i64)],[],[],[]⟩
def yZ:Shape:=⟨[(6,.int .i64)],[(.slot 1,20000,.box 27 [.val cU])],[(3,31000,(.row 36 (.sl bm))),(4,31001,(.row 40 bm)),(5,31002,(.row 40 bm))],[]⟩
def y0:Shape:=⟨[(4,.int .i64),(5,.int .i64)],[],[(3,31000,(.row 3 aea))],[]⟩
def Dx:Shape:=⟨[(7,.int .i64)],[(.slot 2,20000,.box 30 [.val ib]),(.slot 3,20001,.box 61 [.val oD]),(.slot 4,20002,.box 30 [.own (.row 38 cZ),.own (.row 84 dx),.own (.row 42 cG)])],[],[]⟩
def Dy:Shape:=⟨[(4,.int .i64)],[(.slot 1,20000,.box 27 [.val cU]),(.slot 2,20001,.box 27 [.own (.row 38 cZ),.own (.row 84 dx)]),(.slot 3,20002,.box 27 [.own (.row 38 cZ),.own (.row 84 dx)])],[],[]⟩
def Dz:Shape:=⟨[(3,.int .i64)],[(.slot 1,20000,.box 61 [.val oD])],[],[]⟩
def DA:Shape:=⟨[(18,.sl uJ),(19,.int .i64),(20,.int .i64)],[(.slot 4,20000,.box 30 [.own (.row 38 cZ),.own (.row 84 dx),.own (.row 42 cG)]),(.slot 6,20001,.box 128 [.own (.row 38 cZ),.own (.row 84 dx),.val (.sl cG)])],[],[]⟩
def vP:Shape:=⟨[(6,.bool),(7,.int .i64)],[(.slot 2,20000,.box 27 [.val cU]),(.slot 3,20001,.box 38 [.val cZ]),(.slot 4,20002,.box 27 [.own (.row 38 cZ),.own (.row 84 dx)]),(.slot 5,20003,.box 27 [.own (.row 38 cZ),.val (.sl dx)])],[],[]⟩
def zc:Shape:=⟨[(8,.int .i64)],[(.slot 3,20000,.box 27 [.val cU]),(.slot 4,20001,.box 35 [.val fb]),(.slot 5,20002,.box 35 [.val fb]),(.slot 6,20003,.box 27 [.own (.row 38 cZ),.own (.row 84 dx)]),(.slot 7,20004,.box 27 [.own (.row 38 cZ),.own (.row 84 dx)])],[],[]⟩
def zd:Shape:=⟨[(9,.int .i64)],[(.slot 3,20000,.box 27 [.val cU]),(.slot 5,20001,.box 35 [.val fb]),(.slot 6,20002,.box 27 [.own (.row 38 cZ),.own (.row 84 dx)]),(.slot 7,20003,.box 27 [.own (.row 38 cZ),.own (.row 84 dx)])],[],[]⟩
def mQ:Shape:=⟨[(12,.sl cG),(13,.int .i64)],[(.slot 4,20000,.box 30 [.own (.row 38 cZ),.own (.row 84 dx),.own (.row 42 cG)]),(.slot 8,20001,.box 40 [.val bm]),(.slot 9,20002,.box 40 [.val bm]),(.slot 10,20003,.box 40 [.val bm]),(.slot 11,20004,.box 27 [.val cU])],[],[]⟩
def sG:Shape:=⟨[(7,.bool),(8,.int .i64)],[(.slot 2,20000,.box 30 [.val ib]),(.slot 3,20001,.box 100 [.val uJ]),(.slot 4,20002,.box 30 [.own (.row 38 cZ),.own (.row 84 dx),.own (.row 42 cG)]),(.slot 6,20003,.box 27 [.own (.row 38 cZ),.own (.row 84 dx)])],[],[]⟩
def sH:Shape:=⟨[(7,.bool),(9,.int .i64)],[(.slot 2,20000,.box 30 [.val ib]),(.slot 3,20001,.box 100 [.val uJ]),(.slot 4,20002,.box 30 [.own (.row 38 cZ),.own (.row 84 dx),.own (.row 42 cG)]),(.slot 6,20003,.box 27 [.own (.row 38 cZ),.own (.row 84 dx)])],[],[]⟩
def DB:Shape:=⟨[(0,.sl cG),(1,.sl cG),(5,.int .i64)],[],[],[]⟩
def DC:Shape:=⟨[(5,.int .i64)],[(.slot 2,20000,.box 27 [.val cU]),(.slot 3,20001,.box 35 [.val fb])],[],[]⟩
def DD:Shape:=⟨[(4,.int .i64)],[(.slot 1,20000,.box 27 [.val cU])],[(3,31000,(.row 3 aea))],[]⟩
def ze:Shape:=⟨[(5,.int .i64)],[(.slot 1,20000,.box 27 [.val cU])],[(3,31000,(.row 3 aea))],[]⟩
def sI:Shape:=⟨[(5,.int .i64),(6,.int .i64)],[(.slot 1,20000,.box 27 [.val cU])],[(3,31000,(.row 3 aea))],[]⟩
def DE:Shape:=⟨[(0,.sl bm),(1,.sl bm),(5,.int .i64)],[],[],[]⟩
def DF:Shape:=⟨[(17,.sl uJ),(18,.int .i64),(19,.int .i64)],[],[],[]⟩
def DG:Shape:=⟨[(4,.int .i64)],[(.slot 1,20000,.box 27 [.val cU])],[(3,31000,(.row 40 bm))],[]⟩
def DH:Shape:=⟨[(14,.int .i64),(15,.int .i64)],[(.slot 2,20000,.box 27 [.own (.row 38 cZ),.own (.row 84 dx)]),(.slot 3,20001,.box 27 [.own (.row 38 cZ),.own (.row 84 dx)])],[],[]⟩
def vQ:Shape:=⟨[(6,.bool),(7,.int .i64)],[(.slot 2,20000,.box 27 [.val cU]),(.slot 3,20001,.box 84 [.val dx]),(.slot 4,20002,.box 27 [.own (.row 38 cZ),.own (.row 84 dx)]),(.slot 5,20003,.box 27 [.val (.sl cZ),.own (.row 84 dx)])],[],[]⟩
def lH:Shape:=⟨[(0,.sl cG),(8,.bool),(9,.int .i64)],[(.slot 3,20000,.box 42 [.val cG])],[(7,31000,(.row 42 cG))],[]⟩
def zg:Shape:=⟨[(0,.sl bm),(3,.int .i64),(4,.int .i64)],[],[],[]⟩
def DI:Shape:=⟨[(0,.sl bm),(3,.int .i64),(6,.int .i64)],[],[(5,31000,(.row 40 bm))],[]⟩
def DJ:Shape:=⟨[(4,.int .i64)],[(.slot 1,20000,.box 27 [.val cU])],[(3,31000,(.row 35 fb))],[]⟩
def zh:Shape:=⟨[(5,.int .i64)],[(.slot 1,20000,.box 27 [.val cU])],[(3,31000,(.row 35 fb))],[]⟩
def zi:Shape:=⟨[(0,.sl fb),(3,.int .i64)],[],[],[]⟩
def vR:Shape:=⟨[(3,.int .i64)],[(.slot 1,20000,.box 27 [.val cU])],[],[]⟩
def zj:Shape:=⟨[(3,.int .i64),(4,.sl bm),(6,.int .i64)],[(.slot 1,20000,.box 27 [.val cU])],[],[]⟩
def zk:Shape:=⟨[(9,.int .i64)],[(.slot 1,20000,.box 27 [.val cU])],[],[]⟩
def vS:Shape:=⟨[(9,.int .i64),(10,.int .i64)],[(.slot 1,20000,.box 27 [.val cU])],[],[]⟩
def vT:Shape:=⟨[(6,.int .i64),(7,.int .i64)],[(.slot 1,20000,.box 27 [.val cU])],[],[]⟩
def zm:Shape:=⟨[(0,.str)],[],[(6,31000,.oH)],[]⟩
def mR:Shape:=⟨[(48,.int .i64),(49,.int .i64)],[(.slot 0,1000,.box 128 [.own (.row 38 cZ),.own (.row 84 dx),.val (.sl cG)]),(.slot 5,20001,.box 30 [.val ib]),(.slot 7,20002,.box 40 [.val bm])],[(9,31000,(.row 40 bm)),(47,31001,(.row 98 TR))],[]⟩
def IA:Shape:=⟨[(5,.int .i64),(32,.int .i64),(33,.int .i64)],[(.slot 0,1000,.box 128 [.own (.row 38 cZ),.own (.row 84 dx),.val (.sl cG)]),(.slot 7,20001,.box 40 [.val bm]),(.slot 8,20002,.box 40 [.val bm])],[(31,31000,(.row 40 bm))],[]⟩
def zn:Shape:=⟨[(5,.int .i64),(47,.int .i64),(48,.int .i64)],[(.slot 0,1000,.box 128 [.own (.row 38 cZ),.own (.row 84 dx),.val (.sl cG)])],[(46,31000,(.row 40 bm))],[]⟩
def ot:Shape:=⟨[(113,.int .i64)],[(.slot 0,1000,.box 128 [.own (.row 38 cZ),.own (.row 84 dx),.val (.sl cG)]),(.slot 8,20001,.box 40 [.val bm]),(.slot 9,20002,.box 40 [.val bm]),(.slot 10,20003,.box 40 [.val bm])],[],[]⟩
def DK:Shape:=⟨[(5,.int .i64)],[(.slot 2,20000,.box 30 [.val ib]),(.slot 3,20001,.box 40 [.val bm]),(.slot 4,20002,.box 40 [.val bm])],[],[]⟩
def zo:Shape:=⟨[(2,.sl bm),(8,.int .i64)],[(.slot 4,20000,.box 35 [.val fb]),(.slot 6,20001,.box 27 [.own (.row 38 cZ),.own (.row 84 dx)]),(.slot 7,20002,.box 27 [.own (.row 38 cZ),.own (.row 84 dx)])],[],[]⟩
def tQ:Shape:=⟨[(0,.sl bm),(7,.int .i64),(9,.int .i64)],[(.slot 5,20000,.box 40 [.val bm])],[(8,31000,(.row 40 bm))],[]⟩
def xk:Shape:=⟨[(0,.sl cG),(6,.int .i64)],[(.slot 3,20000,.box 40 [.val bm]),(.slot 4,20001,.box 40 [.val bm])],[],[]⟩
def tR:Shape:=⟨[(0,.sl bm),(6,.int .i64)],[(.slot 3,20000,.box 40 [.val bm])],[(5,31000,(.row 40 bm))],[]⟩
def tS:Shape:=⟨[(5,.int .i64),(6,.int .i64)],[(.slot 2,20000,.box 27 [.val cU]),(.slot 3,20001,.box 40 [.val bm])],[],[]⟩
def qE:Shape:=⟨[(5,.int .i64),(6,.int .i64),(7,.int .i64)],[(.slot 2,20000,.box 27 [.val cU]),(.slot 3,20001,.box 40 [.val bm])],[],[]⟩
def BJ:Shape:=⟨[(7,.int .i64)],[(.slot 0,1000,.box 128 [.own (.row 38 cZ),.own (.row 84 dx),.val (.sl cG)]),(.slot 3,20001,.box 40 [.val bm]),(.slot 4,20002,.box 40 [.val bm]),(.slot 5,20003,.box 40 [.val bm])],[],[]⟩
def xl:Shape:=⟨[(12,.int .i64),(13,.int .i64)],[(.slot 0,1000,.box 128 [.own (.row 38 cZ),.own (.row 84 dx),.val (.sl cG)]),(.slot 3,20001,.box 40 [.val bm])],[],[]⟩
def xm:Shape:=⟨[(12,.int .i64),(13,.int .i64)],[(.slot 2,20000,.box 30 [.val ib]),(.slot 3,20001,.box 40 [.val bm]),(.slot 4,20002,.box 40 [.val bm])],[],[]⟩
def xn:Shape:=⟨[(0,.sl bm),(7,.int .i64),(8,.int .i64)],[(.slot 3,20000,.box 40 [.val bm])],[],[]⟩
def xp:Shape:=⟨[(0,.sl (.sl bm)),(3,.int .i64),(9,.sl (.sl bm)),(10,.int .i64),(11,.int .i64)],[],[],[]⟩
def xq:Shape:=⟨[(25,.sl (.sl bm)),(26,.int .i64),(27,.int .i64)],[],[(6,31000,(.row 40 bm))],[]⟩
def BL:Shape:=⟨[(3,.int .i64),(6,.sl aea),(7,.int .i64),(8,.int .i64)],[],[],[]⟩
def xt:Shape:=⟨[(9,.sl cZ),(10,.int .i64),(11,.int .i64)],[(.slot 3,20000,.box 40 [.val bm]),(.slot 4,20001,.box 35 [.val fb])],[],[]⟩
def xu:Shape:=⟨[(8,.sl dx),(9,.int .i64),(10,.int .i64)],[],[(3,31000,(.row 40 bm))],[]⟩
def tT:Shape:=⟨[(18,.sl cZ),(19,.int .i64),(20,.int .i64)],[],[(3,31000,(.row 3 aea)),(4,31001,(.map bm aea))],[]⟩
def xw:Shape:=⟨[(5,.int .i64),(18,.sl cZ),(19,.int .i64),(20,.int .i64),(30,.sl bm),(31,.int .i64),(32,.int .i64)],[],[(3,31000,(.row 3 aea)),(4,31001,(.map bm aea))],[]⟩
def qF:Shape:=⟨[(4,.mp bm aea)],[],[(3,31000,(.row 3 aea)),(42,31001,(.iter bm aea))],[]⟩
def xx:Shape:=⟨[(61,.int .i64),(62,.int .i64)],[],[(3,31000,(.row 3 aea)),(13,31001,(.row 3 aea))],[]⟩
def xy:Shape:=⟨[(11,.sl cZ),(12,.int .i64),(13,.int .i64)],[(.slot 3,20000,.box 40 [.val bm]),(.slot 4,20001,.box 40 [.val bm])],[],[]⟩
def tU:Shape:=⟨[(1,.int .i64)],[],[(0,1000,(.row 3 aea))],[]⟩
def jn:Shape:=⟨[(0,.sl cZ),(8,.int .i64),(9,.int .i64),(10,.int .i64)],[(.slot 4,20000,.box 35 [.val fb])],[],[(2,188,[])]⟩
def jo:Shape:=⟨[(0,.sl dx),(8,.int .i64),(9,.int .i64),(10,.int .i64)],[(.slot 4,20000,.box 35 [.val fb])],[],[(2,198,[])]⟩
def kr:Shape:=⟨[(0,.sl bm),(6,.int .i64)],[(.slot 4,20000,.box 40 [.val bm]),(.slot 5,20001,.box 40 [.val bm])],[],[(1,73,[])]⟩
def mS:Shape:=⟨[(11,.sl cZ),(12,.int .i64),(13,.int .i64)],[(.slot 5,20000,.box 35 [.val fb]),(.slot 6,20001,.box 38 [.val aea,.val aea,.own (.row 40 bm),.val .str,.val aea])],[],[(1,135,[])]⟩
def jq:Shape:=⟨[(0,.sl cG),(8,.int .i64),(9,.int .i64),(10,.int .i64)],[(.slot 4,20000,.box 40 [.val bm])],[],[(2,219,[])]⟩
def ku:Shape:=⟨[(0,.sl cG),(7,.int .i64),(8,.int .i64)],[(.cap 1 0,1000,.box 40 [.val bm])],[],[(1,231,[1000])]⟩
def kx:Shape:=⟨[(5,.int .i64),(8,.sl cZ),(9,.int .i64),(10,.int .i64)],[],[],[(1,206,[])]⟩
def qG:Shape:=⟨[(4,.int .i64),(7,.bool),(8,.bool),(9,.int .i64)],[(.slot 1,20000,.box 27 [.val cU])],[],[]⟩
def qH:Shape:=⟨[(7,.bool),(8,.bool),(10,.int .i64)],[(.slot 1,20000,.box 27 [.val cU])],[],[]⟩
def qI:Shape:=⟨[(0,.sl oD),(4,.int .i64)],[],[(3,31000,(.row 61 oD))],[]⟩
def xz:Shape:=⟨[(1,.sl oD),(5,.int .i64)],[(.slot 2,20000,.box 30 [.val ib]),(.slot 4,20001,.box 30 [.own (.row 38 cZ),.own (.row 84 dx),.own (.row 42 cG)])],[],[]⟩
def mT:Shape:=⟨[(13,.sl oD),(14,.int .i64),(15,.int .i64)],[(.slot 6,20000,.box 30 [.own (.row 38 cZ),.own (.row 84 dx),.own (.row 42 cG)]),(.slot 7,20001,.box 30 [.val ib])],[],[(2,36,[])]⟩
def mU:Shape:=⟨[(13,.sl oD),(14,.int .i64),(15,.int .i64)],[(.cap 2 0,1000,.box 45 [.own (.row 4 .bool)]),(.slot 6,20001,.box 30 [.own (.row 38 cZ),.own (.row 84 dx),.own (.row 42 cG)]),(.slot 7,20002,.box 30 [.val ib])],[],[(2,39,[1000])]⟩
def mV:Shape:=⟨[(14,.int .i64),(15,.int .i64)],[(.slot 6,20000,.box 30 [.own (.row 38 cZ),.own (.row 84 dx),.own (.row 42 cG)]),(.slot 7,20001,.box 30 [.val ib])],[(13,1000,(.row 61 oD))],[(2,36,[])]⟩
def mW:Shape:=⟨[(14,.int .i64),(15,.int .i64)],[(.cap 2 0,1020,.box 45 [.own (.row 4 .bool)]),(.slot 6,20001,.box 30 [.own (.row 38 cZ),.own (.row 84 dx),.own (.row 42 cG)]),(.slot 7,20002,.box 30 [.val ib])],[(13,1000,(.row 61 oD))],[(2,39,[1020])]⟩
def xC:Shape:=⟨[(16,.sl cG),(17,.int .i64),(18,.int .i64)],[],[(3,31000,(.row 5 (.int .u8)))],[]⟩
def tV:Shape:=⟨[(16,.sl cG),(17,.int .i64),(18,.int .i64),(27,.int .i64),(28,.int .i64)],[],[(3,31000,(.row 5 (.int .u8))),(26,31001,(.row 40 bm))],[]⟩
def tW:Shape:=⟨[(25,.sl dx),(26,.int .i64),(27,.int .i64)],[(.slot 1,20000,.box 27 [.val cU])],[(5,31000,(.map fb aea)),(6,31001,(.row 5 (.int .u8)))],[]⟩
def tX:Shape:=⟨[(48,.sl cZ),(49,.int .i64),(50,.int .i64)],[],[(5,31000,(.map fb aea)),(6,31001,(.row 5 (.int .u8)))],[]⟩
def xD:Shape:=⟨[(48,.sl cZ),(49,.int .i64),(50,.int .i64),(71,.sl bm),(72,.int .i64),(73,.int .i64)],[],[(5,31000,(.map fb aea)),(6,31001,(.row 5 (.int .u8)))],[]⟩
def qJ:Shape:=⟨[(0,.sl (.int .u8)),(1,.int .i64),(14,.int .i64)],[],[(5,31000,(.row 5 (.int .u8)))],[]⟩
def tY:Shape:=⟨[(0,.sl fb),(5,.sl fb),(6,.int .i64),(7,.int .i64)],[],[],[]⟩
def xF:Shape:=⟨[(12,.sl dx),(13,.int .i64),(14,.int .i64)],[(.slot 1,20000,.box 27 [.val cU])],[(3,31000,(.map bm .bool))],[]⟩
def tZ:Shape:=⟨[(28,.sl cZ),(29,.int .i64),(30,.int .i64)],[],[(3,31000,(.map bm .bool))],[]⟩
def ua:Shape:=⟨[(28,.sl cZ),(29,.int .i64),(30,.int .i64),(42,.sl bm),(43,.int .i64),(44,.int .i64)],[],[(3,31000,(.map bm .bool))],[]⟩
def xG:Shape:=⟨[(0,.sl bm),(1,.sl bm),(12,.int .i64),(13,.int .i64)],[],[],[]⟩
def mX:Shape:=⟨[(8,.sl cZ),(9,.int .i64),(10,.int .i64)],[],[(5,31000,(.row 35 fb))],[(1,135,[])]⟩
def mY:Shape:=⟨[(8,.sl dx),(9,.int .i64),(10,.int .i64)],[],[(5,31000,(.row 35 fb))],[(1,137,[])]⟩
def fP:Shape:=⟨[(0,.sl cZ),(7,.int .i64),(8,.int .i64)],[(.cap 1 0,1000,.box 169 [.val (.fn 140)])],[],[(1,180,[1000])]⟩
def fQ:Shape:=⟨[(0,.sl cZ),(7,.int .i64),(8,.int .i64)],[(.cap 1 0,1000,.box 169 [.val (.fn 142)])],[],[(1,180,[1000])]⟩
def fR:Shape:=⟨[(0,.sl dx),(7,.int .i64),(8,.int .i64)],[(.cap 1 0,1000,.box 169 [.val (.fn 140)])],[],[(1,182,[1000])]⟩
def fS:Shape:=⟨[(0,.sl dx),(7,.int .i64),(8,.int .i64)],[(.cap 1 0,1000,.box 169 [.val (.fn 142)])],[],[(1,182,[1000])]⟩
def xH:Shape:=⟨[(3,.bool),(8,.int .i64)],[(.slot 4,20000,.box 30 [.val ib]),(.slot 5,20001,.box 30 [.val ib])],[(6,31000,(.row 4 .bool)),(7,31001,(.row 4 .bool))],[]⟩
def xI:Shape:=⟨[(1,.sl oD),(6,.int .i64)],[(.slot 2,20000,.box 30 [.val ib])],[(5,31000,(.row 4 .bool))],[]⟩
def xJ:Shape:=⟨[(5,.int .i64)],[(.slot 1,20000,.box 30 [.val ib])],[(3,31000,(.row 5 (.int .u8)))],[]⟩
def xK:Shape:=⟨[(6,.int .i64)],[(.slot 1,20000,.box 27 [.val cU])],[(5,31000,(.row 5 (.int .u8)))],[]⟩
def ub:Shape:=⟨[(7,.int .i64)],[(.slot 1,20000,.box 27 [.val cU])],[(5,31000,(.row 5 (.int .u8)))],[]⟩
def xL:Shape:=⟨[(7,.int .i64),(9,.int .i64)],[(.slot 1,20000,.box 27 [.val cU]),(.slot 8,20001,.box 38 [.val cZ])],[(5,31000,(.row 5 (.int .u8)))],[]⟩
def qK:Shape:=⟨[(1,.int .i64),(6,.int .i64)],[],[(5,31000,(.row 5 (.int .u8)))],[]⟩
def xM:Shape:=⟨[(5,.int .i64)],[(.slot 2,20000,.box 27 [.val cU]),(.slot 3,20001,.box 35 [.val fb])],[],[]⟩
def ans:List (Nat×List (Nat×Shape)):=[(98,[(12,qG),(17,qH)]),(87,[(2,Dl)]),(174,[(2,Dm)]),(123,[(2,Dn)]),(210,[(6,Dp)]),(170,[(2,Dq)]),(37,[(4,Dt),(12,Du)]),(122,[(2,Dv)]),(185,[(5,yZ)]),(186,[(4,y0)]),(41,[(5,Dx)]),(12,[(3,Dy)]),(65,[(4,Dz)]),(64,[(3,DA)]),(88,[(4,vP)]),(89,[(3,zc),(8,zd)]),(93,[(18,mQ)]),(94,[(4,sG),(12,sH)]),(38,[(4,DB)]),(227,[(2,DC)]),(211,[(3,DD),(7,ze),(10,sI)]),(63,[(4,DE)]),(59,[(4,DF)]),(209,[(3,DG)]),(83,[(3,DH)]),(125,[(4,vQ)]),(127,[(7,lH)]),(132,[(3,zg),(9,DI)]),(146,[(3,DJ),(7,zh)]),(147,[(2,zi)]),(148,[(2,vR),(9,zj),(15,zk),(18,vS)]),(149,[(3,vT)]),(141,[(2,zm)]),(114,[(8,mR)]),(115,[(6,IA),(11,zn)]),(117,[(19,ot)]),(169,[(2,DK)]),(171,[(3,zo)]),(172,[(6,tQ)]),(173,[(2,xk)]),(176,[(3,tR)]),(184,[(3,tS),(6,qE)]),(161,[(3,BJ)]),(162,[(2,xl)]),(193,[(2,xm)]),(195,[(2,xn)]),(202,[(3,xp),(11,xq)]),(101,[(3,BL)]),(216,[(2,xt)]),(223,[(3,xu)]),(236,[(4,tT),(8,xw),(14,qF),(21,xx)]),(240,[(2,xy)]),(242,[(1,tU)]),(189187,[(3,jn)]),(199197,[(3,jo)]),(74201,[(5,kr)]),(136215,[(2,mS)]),(220218,[(3,jq)]),(232230,[(2,ku)]),(207205,[(3,kx)]),(11,[(3,qI)]),(10,[(2,xz)]),(37035,[(3,mT)]),(40035,[(3,mU)]),(537035,[(3,mV)]),(540035,[(3,mW)]),(17,[(3,xC),(6,tV)]),(42,[(7,tW),(14,tX),(19,xD)]),(49,[(4,qJ)]),(133,[(2,tY)]),(138,[(3,xF),(9,tZ),(14,ua)]),(178,[(4,xG)]),(136134,[(3,mX)]),(138136,[(3,mY)]),(14100181203,[(2,fP)]),(14300181203,[(2,fQ)]),(14100183204,[(2,fR)]),(14300183204,[(2,fS)]),(4,[(8,xH)]),(16,[(3,xI)]),(18,[(3,xJ)]),(44,[(6,xK),(11,ub),(17,xL)]),(51,[(3,qK)]),(71,[(2,xM)])]
def An(f:FuncId)(key:Nat):Option Shape:=(ans.find? (fun p=>p.1==f)).bind fun p=>(p.2.find? (fun q=>q.1==key)).map (fun q=>q.2)
abbrev JT(g:aP):=(sh:Shape)→List Item→sh.T→Option g.B
noncomputable def bC(f:FuncId)(g:aP)(fn:Func)(F:FT)(J:JT g)(x:g.A):Option g.B:=aG Tryz.prog Eqs Sg F fn.ntmps (An f) J (rZ Tryz.prog g fn) fuel [.code (fn.body.getD .skip)] (entry g x)
noncomputable def db(f j:Nat)(g:aP)(fn:Func)(sh:Shape)(F:FT)(J:JT g)(x:sh.T):Option g.B:=aG Tryz.prog Eqs Sg F fn.ntmps (An f) J (rZ Tryz.prog g fn) fuel (round (aF Tryz.prog (f%1000) j)) (az sh x)
end Go.Vs
namespace Go.Vs
open Go.Proofs
variable {G:(f:FuncId)→(g:aP)→Option (g.A→Option g.B)}
noncomputable abbrev FX(G:(f:FuncId)→(g:aP)→Option (g.A→Option g.B)):FT:=Fix Tryz.prog Eqs Sg An G
noncomputable abbrev LX(G:(f:FuncId)→(g:aP)→Option (g.A→Option g.B))(f:FuncId)(g:aP)(fn:Func):JT g:=Lp Tryz.prog Eqs Sg An G f g fn
abbrev HG(G:(f:FuncId)→(g:aP)→Option (g.A→Option g.B)):Prop:=∀f g,(f==207 || f==208)=false→G f g=none
theorem av{f:FuncId}{g:aP}{fn:Func}{x:g.A}{y:g.B}{z:Option g.B}(hG:G f g=none)(e:bC f g fn (FX G) (LX G f g fn) x=z)(h:z=some y) (hb:body Tryz.prog (f%1000)=some (fn,fn.body.getD .skip):=by kernel_rfl) (hc:(decide (g.ps.length≤fn.ntmps)&&decide (g.bs.length≤8))=true:=by kernel_rfl):FX G f g x=some y:=Ot hG hb hc (e.trans h)
theorem ar{f j:Nat}{g:aP}{fn:Func}{sh:Shape}{x:sh.T}{y:g.B}{z:Option g.B}(e:db f j g fn sh (FX G) (LX G f g fn) x=z)(h:z=some y) (hs:(match aF Tryz.prog (f%1000) j with | .inLoop _::_=>true|_=>false)=true:=by kernel_rfl):LX G f g fn sh (aF Tryz.prog (f%1000) j) x=some y:=by
 have h:=e.trans h;unfold db at h;generalize aF Tryz.prog (f%1000) j=s at hs h ⊢
 split at hs
 ·exact TQ h
 ·cases hs
abbrev aab:=(Int×Unit)
abbrev aac:=(((List ai)×((List ak)×Unit))×(((List ai)×((List ak)×Unit))×Unit))
abbrev aae:=(ae×Unit)
abbrev aaf:=(Int×aab)
abbrev aaj:=((an×Unit)×Unit)
abbrev aal:=(ID×Unit)
abbrev aam:=((List ae)×Unit)
abbrev aan:=(aae×Unit)
abbrev aao:=(StateT×Unit)
abbrev aap:=(an×Unit)
abbrev aaq:=((List Int)×Unit)
abbrev aaJ:=(Unit×Unit)
abbrev aaK:=(aW×Unit)
abbrev aaM:=((List ae)×aab)
abbrev aa9:=((List Bool)×Unit)
abbrev abb:=((List (List bj))×Unit)
abbrev abc:=(aal×Unit)
abbrev abk:=(aal×((Int×(Int×((List ae)×(ByteArray×aab))))×Unit))
abbrev abl:=((List ae)×aaf)
abbrev abq:=((List ai)×aaf)
abbrev abr:=(aaj×Unit)
end Go.Vs
