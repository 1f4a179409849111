/- The value semantics is sound -/
import Derived.Test.YtoleelddkocpkaaGreatEngineC
import Derived.Test.YtoleelddkocpkaaGreatProg
import Derived.Scope
import Derived.KernelRfl
set_option linter.unusedSimpArgs false
set_option linter.unusedVariables false
namespace Go.Vs
variable {P:Program} {Eqs:TypeId→Option K} {Sg:FuncId→Option aO} {F:(f:FuncId)→(g:aO)→g.A→Option g.B} {R:Type}
variable {Z Z' Z0:Nat→Prop} {ψ ψ' ψ0:Nat→Value} {h h':Hp} {w w' w0:World} {B0:Nat} {O N:Nat→Prop}
def fG(st:St):(l:List (Nat×Nat×OK))→LC (l.map (·.2.2))→List zz
 |[],_=>[]
 |(s,id,ok)::r,x=>(id,(pO (look st.tmps s)).head?,.own ok x.1)::fG st r x.2
theorem wx(st:St):∀(l:List (Nat×Nat×OK)) (x:LC (l.map (·.2.2))),dM (fG st l x)=rF l x
 |[],_=>rfl
 |(s,id,ok)::r,x=>by simp only[fG,rF];rw[←wx st r x.2];rfl
theorem uz(st:St):∀(l:List (Nat×Nat×OK)) (x:LC (l.map (·.2.2))),(fG st l x).map (·.1)=l.map (·.2.1)
 |[],_=>rfl
 |(s,id,ok)::r,x=>by simp only[fG,List.map_cons];rw[uz st r x.2]
theorem zO(st:St):∀(l:List (Nat×Nat×OK)) (x:LC (l.map (·.2.2))),(fG st l x).filterMap (·.2.1)=l.flatMap fun p=>pO (look st.tmps p.1)
 |[],_=>rfl
 |(s,id,ok)::r,x=>by simp only[fG,List.flatMap_cons];rw[dQ,zO st r x.2];simp only[];rw[ya]
theorem rO{st:St}{s id:Nat}{ok:OK}{r:List (Nat×Nat×OK)}{x:LC (((s,id,ok)::r).map (·.2.2))}(hd:pR st ((s,id,ok)::r)=some x):dZ st.heap ok (look st.tmps s)=some x.1∧pR st r=some x.2:=by
 have e:pR st ((s,id,ok)::r)=(match dZ st.heap ok (look st.tmps s),pR st r with
  |some x,some y=>some ((x,y):ok.T×LC (r.map (·.2.2)))
  |_,_=>none):=rfl
 grind
theorem Cl{hd:Hp}{st:St}:∀(l:List (Nat×Nat×OK)) (x:LC (l.map (·.2.2))),pR st l=some x→(∀s∈(l.flatMap fun p=>pO (look st.tmps p.1)),hd s=st.heap.get s) → ∀e∈fG st l x,we Z ψ hd w h' ψ' e
 |[],_,_,_,e,he=>by simp[fG]at he
 |(s,id,ok)::r,x,hx,hk,e,he=>by
  obtain⟨h1,h2⟩:=rO hx;simp only[List.flatMap_cons]at hk;simp only[fG]at he;rcases abM.1 he with rfl|he
  ·exact Ns h1 fun s hs=>hk s (abO _ hs)
  ·exact Cl r x.2 h2 (fun s hs=>hk s (abN _ hs)) e he
theorem Jp{st:St}{s:Nat}{k:K}{r:List (Nat×K)}{x:IG (((s,k)::r).map (·.2))}(hd:uV st ((s,k)::r)=some x):gP k st.heap (look st.tmps s)=some x.1∧uV st r=some x.2:=by
 have e:uV st ((s,k)::r)=(match gP k st.heap (look st.tmps s),uV st r with
  |some x,some y=>some ((x,y):k.T×IG (r.map (·.2)))
  |_,_=>none):=rfl
 grind
theorem eY{T:List (Nat×AV)}{n:Nat}{a:Act}(jA:∀p∈T,az Z ψ h w p.2 (a.tmps.getD p.1 undef))(hs:a.tmps.size=n)(hd:a.defers=[]):cS Z ψ h w n (look T) a:=by
 refine⟨fun d=>?_,hs,hd⟩
 induction T with
 |nil=>simp only[look,az]
 |cons p r ih =>
  grind [look,List.mem_cons_self,List.mem_cons_of_mem]
section
variable {st:St} {n:Nat} {a:Act}
theorem wy(g:Good Z ψ st.heap.get w B0 O)(t:cS Z ψ st.heap.get w n (look st.tmps) a)(hz:∀b,Z b→Z' b):∀(l:List (Nat×K)) (x:IG (l.map (·.2))),uV st l=some x →(∀id b,AV.bI id∈(l.flatMap fun p=>(look st.tmps p.1).cells)→st.heap.get id≠none→ob (ψ id)=some b→Z' b)→∀p∈rE l x,az Z' ψ' h' w p.2 (a.tmps.getD p.1 undef)
 |[],_,_,_,p,hp=>by simp[rE]at hp
 |(s,k)::r,x,hx,hf,p,hp=>by
  obtain⟨h1,h2⟩:=Jp hx;simp only[List.flatMap_cons]at hf;simp only[rE]at hp;rcases abM.1 hp with rfl|hp
  ·exact sX g hz (fun id b bL=>hf id b (abO _ bL)) h1 (t.rep s)
  ·exact wy g t hz r x.2 h2 (fun id b bL=>hf id b (abN _ bL)) p hp
theorem uA(t:cS Z ψ st.heap.get w n (look st.tmps) a):∀(l:List (Src×Nat×BK)) (ids:List Nat),GS st l=some ids→(∀i∈ids,st.heap.get i≠none) →(∀p∈ids.zip (l.map (·.2.1)),h' p.2≠none→ψ' p.2=ψ p.1)→∀p∈j6 l,az Z' ψ' h' w p.2 (a.tmps.getD p.1 undef)
 |[],_,_,_,_,p,hp=>by simp[j6]at hp
 |(src,ov,b)::r,ids,hx,hi,jV,p,hp=>by
  simp only[GS]at hx
  split at hx
  ·rename_i i is h1 h2
   cases hx
   simp only[List.map_cons,List.zip_cons_cons]at jV;have ih:=uA t r is h2 (fun j hj=>hi j (abq _ hj)) (fun p hp=>jV p (abq _ hp)) p
   cases src with
   |slot s =>
    simp only[j6]at hp;rcases abM.1 hp with rfl|hp
    ·simp only[YB]at h1;obtain⟨sz,h3⟩:=p4 h1;have h4:=t.rep s
     grind [AP,List.mem_cons_self]
    ·exact ih hp
   |cap s j=>grind [j6]
  ·cases hx
theorem Jq{hh:Heap}{ids:List (Nat×Nat)}(hi:∀p∈ids,hh.get p.1≠none)(jV:∀p∈ids,h' p.2≠none→ψ' p.2=ψ p.1):∀(cap:List AV) (is GU:List Nat) (vs:List Value),j4 cap=some is → is.map (fun i=>(ids.find? (·.1==i)).map (·.2))=GU.map some→ar Z ψ hh.get w cap vs→ar Z' ψ' h' w (GU.map fun i=>.ref i 0 0 0) vs
 |[],is,GU,vs,h1,h2,hr=>by simp_all [j4,List.map_nil,ar]
 |v::cap,is,GU,vs,h1,h2,hr=>by
  simp only[j4]at h1
  split at h1
  ·rename_i i is' h3 h4
   cases h1
   cases GU with
   |nil=>simp at h2
   |cons c r =>
    simp only[List.map_cons,List.cons.injEq]at h2;obtain⟨h5,h6⟩:=h2;simp only[List.map_cons,ar]at hr ⊢;obtain⟨u,us,rfl,h7,h8⟩:=hr;obtain⟨sz,rfl⟩:=p4 h3
    cases hf:ids.find? (·.1==i) with
    |none=>simp_all
    |some p =>
     rw[hf]at h5;have hm:=ab8 hf;have he:=acR hf;simp only[Option.map_some,Option.some.injEq]at h5;have Nm:p.1=i:=by simpa using he
     refine⟨u,us,rfl,AP h7 (by grind) (fun hn=>?_),Jq hi jV cap is' r us h4 h6 h8⟩
     grind
  ·cases h1
theorem zP(t:cS Z ψ st.heap.get w n (look st.tmps) a){ids:List (Nat×Nat)}(hi:∀p∈ids,st.heap.get p.1≠none)(jV:∀p∈ids,h' p.2≠none→ψ' p.2=ψ p.1):∀(l:List (Nat×FuncId×List Nat)),Nl st ids l=true → ∀p∈AH l,az Z' ψ' h' w p.2 (a.tmps.getD p.1 undef)
 |[],_,p,hp=>by simp[AH]at hp
 |(s,f,GU)::r,hx,p,hp=>by
  simp only[Nl,Bool.and_eq_true]at hx;simp only[AH,List.map_cons]at hp;rcases abM.1 hp with rfl|hp
  ·have h1:=hx.1
   split at h1
   ·rename_i f' cap hl;simp only[Bool.and_eq_true,decide_eq_true_eq]at h1;obtain⟨rfl,h2⟩:=h1
    split at h2
    ·rename_i is hri;have h4:=t.rep s;rw[hl]at h4;simp only[az]at h4 ⊢;obtain⟨vs,h5,h6⟩:=h4;exact⟨vs,h5,Jq hi jV cap is GU _ hri (of_decide_eq_true h2) h6⟩
    ·cases h2
   ·cases h1
  ·exact zP t hi jV r hx.2 p hp
theorem wz(t:cS Z ψ st.heap.get w n (look st.tmps) a):∀(l:List (Nat×Nat×OK)) (x:LC (l.map (·.2.2))),pR st l=some x→(∀e∈fG st l x,h' e.1≠none→ψ' e.1=kb ψ e.2.1) → ∀p∈(l.map fun p=>(p.1,AV.bI p.2.1)),az Z' ψ' h' w p.2 (a.tmps.getD p.1 undef)
 |[],_,_,_,p,hp=>by simp at hp
 |(s,id,ok)::r,x,hx,jV,p,hp=>by
  obtain⟨h1,h2⟩:=rO hx;simp only[fG]at jV;simp only[List.map_cons]at hp;rcases abM.1 hp with rfl|hp
  ·exact G6 h1 (t.rep s) (jV _ abT)
  ·exact wz t r x.2 h2 (fun e he=>jV e (abq _ he)) p hp
end
theorem wA{st:St}{m:Nat}:∀(l:List (Nat×Nat×OK)) (x:LC (l.map (·.2.2))),ox st m l=true→∃o,(m,some m,o)∈fG st l x
 |[],_,h=>by cases h
 |(s,id,ok)::r,x,h=>by
  simp only[ox,Bool.or_eq_true,Bool.and_eq_true,beq_iff_eq]at h;rcases h with⟨rfl,h⟩|h
  ·grind [id,fG,pO,List.head?_cons,List.mem_cons_self]
  ·obtain⟨o,ho⟩:=wA r x.2 h;exact⟨o,abq _ ho⟩
theorem uB{st:St}{m:Nat}:∀(l:List (Nat×Nat×OK)) (x:LC (l.map (·.2.2))),pR st l=some x→ox st m l=true→st.heap.get m≠none
 |[],_,_,h=>by cases h
 |(s,id,ok)::r,x,hx,h=>by
  obtain⟨h1,h2⟩:=rO hx;simp only[ox,Bool.or_eq_true,Bool.and_eq_true,beq_iff_eq]at h;rcases h with⟨rfl,h⟩|h
  ·split at h
   ·rename_i i hl;have hi:i=id:=by simpa using h
    subst hi;rw[hl]at h1;simp only[dZ]at h1
    split at h1
    ·rename_i hg;rw[hg];simp
    ·cases h1
   ·cases h
  ·exact uB r x.2 h2 h
theorem NB{lr:List AV}{hh:Heap}{b:Nat}(hb:rk Z ψ hh.get lr b):Z b∨Own ψ hh.get b:=hb.imp (fun h=>h) fun⟨i,_,h2,h3⟩=>⟨i,h2,h3⟩
theorem gF{sh:Shape}{st:St}{x:sh.T}{n:Nat}{a:Act}(hx:cI sh st=some x)(k:Ok Z0 w0 O ψ0 Z ψ st.heap.get w)(t:cS Z ψ st.heap.get w n (look st.tmps) a) :
  ∃Z' ψ',Ok Z0 w0 O ψ0 Z' ψ' (av sh x).heap.get w∧cS Z' ψ' (av sh x).heap.get w n (look (av sh x).tmps) a:=by
 unfold cI at hx
 split at hx
 ·cases hx
 rename_i ids xS
 split at hx
 ·rename_i xv xb xr hv hb hr Ev
  cases hx
  simp only[Bool.and_eq_true]at Ev;obtain⟨Js,Hd,aij,an7⟩:=Ev;obtain⟨hlen,FF⟩:=jC _ _ _ hb;have YT:(sh.boxes.map (·.2.1)).length=sh.bs.length:=by simp[Shape.bs]
  let L:List zz:=cw sh.bs st.heap ids (sh.boxes.map (·.2.1)) 9000 xb++fG st sh.rows xr
  have eH:dM L=(av sh (xv,xb,xr)).heap:=by show dM (_++_)=_;rw[nt,jB _ _ _ _ _ _ hb YT,wx];rfl
  have eN:L.map (·.1)=sO sh:=by show(_++_:List zz).map _=_;rw[List.map_append,hY _ _ _ _ _ _ hb YT,uz];rfl
  have eS:L.filterMap (·.2.1)=IL st sh ids:=by show(_++_:List zz).filterMap _=_;rw[List.filterMap_append,kN _ _ _ _ _ _ hb YT,zO];rfl
  have hn:cc (L.map (·.1))=true:=by simp_all
  have jV:=AO (ψ:=ψ) hn;have hz:∀b,Z b→rk Z ψ st.heap.get (AG st sh ids) b:=fun b hb=>.inl hb;have Iz:=(ta Js).2 st.heap;have g':Good (rk Z ψ st.heap.get (AG st sh ids)) (eX ψ L) (dM L).get w w0.heap.size O:=by
   refine yc k.dn Js hn eS fun e he=>?_;rcases abU.1 he with he|he
   ·exact mr k.dn hz sh.bs ids _ 9000 xb hb (fun id b bL h1 h2=>.inr ⟨id,abN _ bL,h1,h2⟩) (fun s hs=>Iz s (abO _ hs)) (fun e he=>jV e (abO _ he)) e he
   ·exact Cl sh.rows xr hr (fun s hs=>Iz s (abN _ hs)) e he
  have aan:∀p∈ids.zip (sh.boxes.map (·.2.1)),(dM L).get p.2≠none→eX ψ L p.2=ψ p.1:=fun p hp bw=>by obtain⟨o,ho⟩:=kO sh.bs ids (sh.boxes.map (·.2.1)) 9000 xb (hh:=st.heap) hlen p hp;exact jV (p.2,some p.1,o) (abO _ ho) bw
  have Iu:∀p∈ids.zip (sh.boxes.map (·.2.1)),st.heap.get p.1≠none:=fun p hp=>FF _ (List.of_mem_zip hp).1;refine⟨rk Z ψ st.heap.get (AG st sh ids),eX ψ L,?_,?_⟩
  ·rw[←eH];refine⟨g',fun b hb=>.inl (k.fX b hb),fun b hb=>?_,k.os,k.tape,k.output,k.size,k.block,fun i hi bw=>?_⟩
   ·rcases NB hb with h1|⟨id,h1,h2⟩
    ·exact k.eO b h1
    ·exact .inr (k.dn.live id b h1 h2).2.symm
   ·obtain⟨o,ho⟩:=abQ.1 bw;obtain⟨s,hm⟩:=oG ho;have iW:i∈sO sh:=by grind
    have h1:=ab7.1 aij i iW;simp only[Bool.or_eq_true,decide_eq_true_eq]at h1;rcases h1 with(h1|h1)|h1
    ·omega
    ·obtain⟨p,hp,he⟩:=List.any_eq_true.1 h1;simp only[Bool.and_eq_true,beq_iff_eq]at he;have h2:=aan p hp (by simp_all);rw[he.1,he.2]at h2;rw[h2];exact k.fix i hi (by grind)
    ·obtain⟨o',rl⟩:=wA sh.rows xr h1;have h2:eX ψ L i=ψ i:=jV (i,some i,o') (abN _ rl) bw;rw[h2];exact k.fix i hi (uB sh.rows xr hr h1)
  ·rw[←eH];refine eY (fun p hp=>?_) t.size t.defers;simp only[av]at hp;rcases abU.1 hp with hp|hp
   ·exact wy k.dn t hz sh.Ao xv hv (fun id b bL h1 h2=>.inr ⟨id,abO _ bL,h1,h2⟩) p hp
   ·rcases abU.1 hp with hp|hp
    ·grind [uA]
    ·rcases abU.1 hp with hp|hp
     ·grind [zP]
     ·exact wz t sh.rows xr hr (fun e he=>jV e (abN _ he)) p hp
 ·cases hx
end Go.Vs
namespace Go.Vs
variable {P:Program} {Eqs:TypeId→Option K} {Sg:FuncId→Option aO} {F:(f:FuncId)→(g:aO)→g.A→Option g.B} {R:Type}
variable {Z Z' Z0:Nat→Prop} {ψ ψ' ψ0:Nat→Value} {h h':Hp} {w w' w0:World} {B0:Nat} {O N:Nat→Prop}
def Reach(P:Program)(b:Frame)(cs:List Frame)(vh:Act→World→Prop)(m:Machine):Prop:=∃a' w' todo,vh a' w'∧Steps P m (lone { b.at a' todo with mode:=.returning } cs w')
theorem Reach.head{b:Frame}{cs:List Frame}{vh:Act→World→Prop}{m m':Machine}(h:step P m=.next m')(r:Reach P b cs vh m'):Reach P b cs vh m:=by obtain⟨a,w,todo,h1,h2⟩:=r;exact⟨a,w,todo,h1,.head h h2⟩
theorem Reach.steps{b:Frame}{cs:List Frame}{vh:Act→World→Prop}{m m':Machine}(h:Steps P m m')(r:Reach P b cs vh m'):Reach P b cs vh m:=by obtain⟨a,w,todo,h1,h2⟩:=r;exact⟨a,w,todo,h1,h.trans h2⟩
mutual
theorem Jt{p:Nat→Prop}(hp:∀i,p i):∀v:AV,aI p v
 |.ref id _ _ _=>by simp only[aI];exact hp id
 |.bI id=>by simp only[aI];exact hp id
 |.fn _ cap=>by simp only[aI];exact ti hp cap
 |.agg cs=>by simp only[aI];exact ti hp cs
 |.nM vs=>by simp only[aI];exact ti hp vs
 |.no=>by simp only[aI]
 |.bool _=>by simp only[aI]
 |.int _ _=>by simp only[aI]
 |.str _=>by simp only[aI]
 |.lH=>by simp only[aI]
 |.fK=>by simp only[aI]
 |.fp _ _ _=>by simp only[aI]
 |.sl _ _ _=>by simp only[aI]
 |.mp _ _ _=>by simp only[aI]
theorem ti{p:Nat→Prop}(hp:∀i,p i):∀l:List AV,aA p l
 |[]=>by simp only[aA]
 |v::r=>by simp only[aA];exact⟨Jt hp v,ti hp r⟩
end
theorem Xi(s:Nat){n:Nat}{a:Act}{st:St}(k:Ok Z0 w0 O ψ0 Z ψ st.heap.get w)(t:cS Z ψ st.heap.get w n (look st.tmps) a):∃Z',Ok Z0 w0 O ψ0 Z' ψ (RM s st).heap.get w∧cS Z' ψ (RM s st).heap.get w n (look (RM s st).tmps) a:=by
 unfold RM
 split
 ·rename_i m hl
  split
  ·rename_i ty kk xs hg;have g:=k.dn;obtain⟨vs,Wq,xY⟩:=g.row m (.row ty kk) xs hg;have hs:∀i o,(st.heap.del m).get i=some o→st.heap.get i=some o:=fun i o hi=>by simp_all [sV,dS]
   have gg:=g.freeze (Z':=fun b=>Z b∨ob (ψ m)=some b) (h':=(st.heap.del m).get) hs (fun b hb=>.inl hb) (fun b hb=>hb.imp (fun h=>h) (fun hb=>⟨m,by rw[hg];simp,by rw[sV,ba],hb⟩));have n1:Next Z ψ st.heap.get w w0.heap.size O (fun _=>False) (fun b=>Z b∨ob (ψ m)=some b) ψ (st.heap.del m).get w:=⟨fun b hb=>.inl hb,fun b hb=>hb.imp (fun h=>h) (fun hb=>.inl ⟨m,by rw[hg];simp,hb⟩),cO.refl _ _ _,fun i hi=>by obtain⟨o,ho⟩:=abQ.1 hi;simp_all,gg⟩;refine⟨_,k.next (fun id h=>h.elim) n1,⟨fun d=>?_,t.size,t.defers⟩⟩;rw[tf _ rfl];have hr:=t.rep d;by_cases hv:look st.tmps d=.bI m
   ·rw[hv]at hr ⊢;simp only[az]at hr;have hu:=hr.2 (by rw[hg];simp);simp only[Am,if_true,az]
    grind [vT]
   ·have hf:Am m (.sl false kk xs) (look st.tmps d)=look st.tmps d:=by
     unfold Am
     grind
    rw[hf];exact n1.rep g (Jt (fun _ h=>h) _) hr
  grind
 grind
theorem SL{n:Nat}{a:Act}(o:Option Shape){st:St}(k:Ok Z0 w0 O ψ0 Z ψ st.heap.get w)(t:cS Z ψ st.heap.get w n (look st.tmps) a):∃Z',Ok Z0 w0 O ψ0 Z' ψ (IM o st).heap.get w∧cS Z' ψ (IM o st).heap.get w n (look (IM o st).tmps) a:=by
 unfold IM
 split
 ·rename_i sh;generalize sh.rows=l
  induction l generalizing Z st with
  |nil=>grind
  |cons p r ih =>obtain⟨Z1,k1,t1⟩:=Xi p.1 k t;exact ih k1 t1
 grind
theorem rP(V:Env P Eqs Sg F)(hm:P.follows .mixedOrders=true){n:Nat}{ann:Nat→Option Shape}{J:(sh:Shape)→List Item→sh.T→Option R}{ret:St→Option R}{r:R}{b:Frame}{cs:List Frame}{vh:Act→World→Prop} (hJ:∀sh c k x Z ψ a w,J sh (.inLoop c::k) x=some r→Ok Z0 w0 O ψ0 Z ψ (av sh x).heap.get w→cS Z ψ (av sh x).heap.get w n (look (av sh x).tmps) a→Reach P b cs vh (lone (b.at a (.code c::.inLoop c::k)) cs w)) (tZ:∀st Z ψ a w,ret st=some r→Ok Z0 w0 O ψ0 Z ψ st.heap.get w→cS Z ψ st.heap.get w n (look st.tmps) a→vh a w) :
  ∀(fu:Nat) (items:List Item) (st:St) (Z:Nat→Prop) (ψ:Nat→Value) (a:Act) (w:World),aD P Eqs Sg F n ann J ret fu items st=some r→Ok Z0 w0 O ψ0 Z ψ st.heap.get w→cS Z ψ st.heap.get w n (look st.tmps) a → Reach P b cs vh (lone (b.at a items) cs w)
 |0,items,st,Z,ψ,a,w,hx,k,t=>by
  grind [aD]
 |fu+1,[],st,Z,ψ,a,w,hx,k,t=>⟨a,w,[],tZ st Z ψ a w (by grind [aD]) k t,.one step_end⟩
 |fu+1,it::Rz,st,Z,ψ,a,w,hx,k,t=>by
  have ih:=rP V hm (ann:=ann) hJ tZ fu;have loop:∀c,(match ann (sP c) with
    |none=>none
    |some sh=>match cI sh st with
     |some x=>J sh (.inLoop c::Rz) x
     |none=>none)=some r→Reach P b cs vh (lone (b.at a (.code c::.inLoop c::Rz)) cs w):=fun c hx=>by
   grind [gF]
  cases it with
  |inBlock id=>exact .head step_inBlock (ih Rz st Z ψ a w (by grind [aD]) k t)
  |inScope c=>exact .head step_inScope (ih Rz st Z ψ a w (by grind [aD]) k t)
  |inLoop c=>exact .head step_inLoop (loop c (by grind [aD]))
  |code c =>
   cases c with
   |skip=>exact .head step_skip (ih Rz st Z ψ a w (by grind [aD]) k t)
   |label l=>exact .head step_label (ih Rz st Z ψ a w (by grind [aD]) k t)
   |seq x y=>exact .head step_seq (ih _ st Z ψ a w (by grind [aD]) k t)
   |cond c x y =>
    simp only[aD]at hx
    split at hx
    ·rename_i tt ht;have h1:=rN t c;rw[ht]at h1;simp only[az]at h1
     cases tt with
     |true=>exact .head (step_cond h1) (ih _ st Z ψ a w hx k t)
     |false=>exact .head (step_cond h1) (ih _ st Z ψ a w hx k t)
    ·cases hx
   |scope c=>exact .head step_scope (ih _ st Z ψ a w (by grind [aD]) k t)
   |block id c=>exact .head step_block (ih _ st Z ψ a w (by grind [aD]) k t)
   |loop c =>
    simp only[aD]at hx
    cases fu with
    |zero=>grind [aD]
    |succ fu=>exact .head step_loop (loop c (by grind [aD]))
   |exit id =>
    simp only[aD]at hx
    split at hx
    ·rename_i k' hk;exact .head (step_exit hk) (ih _ st Z ψ a w hx k t)
    ·cases hx
   |ret=>exact⟨a,w,_,tZ st Z ψ a w (by grind [aD]) k t,.one step_ret⟩
   |region id ops draw =>simp only[aD]at hx;obtain⟨Zf,k,t⟩:=SL (ann (500000+id)) k t;have hw:=Hm V hm (Q:=fun e a w=>e=.normal∧∃eP Z ψ,aD P Eqs Sg F n ann J ret fu Rz eP=some r∧Ok Z0 w0 O ψ0 Z ψ eP.heap.get w∧cS Z ψ eP.heap.get w n (look eP.tmps) a) hx k t (fun eP Z ψ a w h1 h2 h3=>⟨rfl,eP,Z,ψ,h1,h2,h3⟩);obtain⟨e,a',w',⟨rfl,eP,Z',ψ',h1,h2,h3⟩,Si⟩:=hw b Rz cs;exact .steps Si (ih Rz eP Z' ψ' a' w' h1 h2 h3)
   |_=>grind [aD]
  |_=>grind [aD]
theorem rQ{hh:Heap}{n:Nat}{s:List (Nat×AV)}{a:Act}(g:Good Z ψ hh.get w B0 O)(t:cS Z ψ hh.get w n (look s) a):∀(l:List ResultVar) (acc:Array Value) (vs:List AV),zn P hh s l=some vs → ∃us,(l.foldlM (fun(bs:Array Value) r=>do let y ←(match r with | .tmp t=>pure (a.tmps.getD t undef) | .cell p ty=>do loadVar ty (←asAddr (a.tmps.getD p undef)):Sem Value);pure (bs.push y)) acc:Sem (Array Value)).run P w=.ok (acc++us.toArray) w∧ar Z ψ hh.get w vs us
 |[],acc,vs,hx=>by
  simp only[zn]at hx
  cases hx
  exact⟨[],by simp,by simp only[ar]⟩
 |.tmp d::l,acc,vs,hx=>by
  simp only[zn]at hx
  split at hx
  ·rename_i iI h1
   cases hx
   obtain⟨us,h2,h3⟩:=rQ g t l (acc.push (a.tmps.getD d undef)) iI h1;refine⟨a.tmps.getD d undef::us,?_,by simp only[ar];exact⟨_,_,rfl,t.rep d,h3⟩⟩;simp only[List.foldlM_cons,Sem.run_bind,Sem.run_pure,Result.andThen_ok];rw[h2];simp
  ·cases hx
 |.cell d ty::l,acc,vs,hx=>by
  simp only[zn]at hx
  split at hx
  ·rename_i id sz off hd
   split at hx
   ·rename_i bt cs hg
    split at hx
    ·rename_i v iI hv h1
     cases hx
     have h4:=t.rep d;rw[hd]at h4;simp only[az]at h4;obtain⟨ad,h5,h6⟩:=h4;obtain⟨gg,ws,e1,e2,e3,e4⟩:=g.box id bt cs hg;have h7:=h6 (by rw[hg];simp);rw[e1]at h7;simp only[WH,Nat.zero_mul,Nat.zero_add]at h7;subst h7;obtain⟨V,h8,h9⟩:=j8 (a:=⟨gg,off,none⟩) (e3.drop off) (fun j u hu=>by rw[cy];simp only[World.cell?,e2];rw[List.getElem?_drop]at hu;simpa using hu) hv;have pI:(loadVar ty ⟨gg,off,none⟩).run P w=.ok V w:=by have:=h8;simpa[Instr.loadAt,Instr.sureAddr] using this
     obtain⟨us,h2,h3⟩:=rQ g t l (acc.push V) iI h1;refine⟨V::us,?_,by simp only[ar];exact⟨_,_,rfl,h9,h3⟩⟩;have El:(asAddr (a.tmps.getD d undef)).run P w=.ok ⟨gg,off,none⟩ w:=by rw[h5];rfl
     simp only[List.foldlM_cons,Sem.run_bind,El,Sem.run_pure,Result.andThen_ok,pI];rw[h2];simp
    ·cases hx
   ·cases hx
  ·cases hx
theorem Ju{fn:Func}{hh:Heap}{n:Nat}{s:List (Nat×AV)}{a:Act}{vs:List AV}(g:Good Z ψ hh.get w B0 O)(t:cS Z ψ hh.get w n (look s) a)(hx:zn P hh s fn.results.toList=some vs) :
  ∃us v,(results fn a.tmps).run P w=.ok v w∧ar Z ψ hh.get w vs us∧v=(if us.length=1 then us.headD undef else .tuple us.toArray):=by
 obtain⟨us,h1,h2⟩:=rQ (P:=P) g t fn.results.toList #[] vs hx;refine⟨us,_,?_,h2,rfl⟩;have h3:(fn.results.mapM fun r=>(match r with | .tmp t=>pure (a.tmps.getD t undef) | .cell p ty=>do loadVar ty (←asAddr (a.tmps.getD p undef)):Sem Value)).run P w=.ok us.toArray w:=by simp_all [Array.mapM_eq_foldlM,Array.foldlM_toList]
 have h4:results fn a.tmps=(do
   let vs ←fn.results.mapM fun r=>(match r with | .tmp t=>pure (a.tmps.getD t undef) | .cell p ty=>do loadVar ty (←asAddr (a.tmps.getD p undef)):Sem Value)
   pure (if h:vs.size=1 then vs[0] else .tuple vs)):=rfl
 rw[h4,Sem.run_bind,h3,Result.andThen_ok,Sem.run_pure];congr 1;by_cases h5:us.length=1
 ·obtain⟨u,rfl⟩:=List.length_eq_one_iff.1 h5;simp
 simp_all
theorem gG:∀(ps:List PK) (ids:List Nat) (s:Nat) (x:IG (ly ps)) (us:List Value),ar Z ψ h w ((aT ps ids s x).map (·.2)) us→us.length=ps.length∧∀p∈aT ps ids s x,∃j u,p.1=s+j∧us[j]? = some u∧az Z ψ h w p.2 u
 |[],ids,s,x,us,hr=>by simp only[aT,List.map_nil,ar]at hr;subst hr;exact⟨rfl,fun p hp=>by simp[aT]at hp⟩
 |.val k::ps,ids,s,x,us,hr=>by
  simp only[aT,List.map_cons,ar]at hr;obtain⟨u,jh,rfl,h1,h2⟩:=hr;obtain⟨h3,h4⟩:=gG ps ids (s+1) x.2 jh h2;refine⟨by simp[h3],fun p hp=>?_⟩;simp only[aT]at hp;rcases abM.1 hp with rfl|hp
  ·exact⟨0,u,rfl,rfl,h1⟩
  ·obtain⟨j,u',h5,h6,h7⟩:=h4 p hp;exact⟨j+1,u',by omega,by simpa using h6,h7⟩
 |.ref::ps,i::ids,s,x,us,hr=>by
  simp only[aT,List.map_cons,ar]at hr;obtain⟨u,jh,rfl,h1,h2⟩:=hr;obtain⟨h3,h4⟩:=gG ps ids (s+1) x jh h2;refine⟨by simp[h3],fun p hp=>?_⟩;simp only[aT]at hp;rcases abM.1 hp with rfl|hp
  ·exact⟨0,u,rfl,rfl,h1⟩
  ·obtain⟨j,u',h5,h6,h7⟩:=h4 p hp;exact⟨j+1,u',by omega,by simpa using h6,h7⟩
 |.ref::ps,[],s,x,us,hr=>by
  simp only[aT,List.map_cons,ar]at hr;obtain⟨u,jh,rfl,h1,h2⟩:=hr;obtain⟨h3,h4⟩:=gG ps [] (s+1) x jh h2;refine⟨by simp[h3],fun p hp=>?_⟩;simp only[aT]at hp;rcases abM.1 hp with rfl|hp
  ·exact⟨0,u,rfl,rfl,h1⟩
  ·obtain⟨j,u',h5,h6,h7⟩:=h4 p hp;exact⟨j+1,u',by omega,by simpa using h6,h7⟩
 |.own::ps,i::ids,s,x,us,hr=>by
  simp only[aT,List.map_cons,ar]at hr;obtain⟨u,jh,rfl,h1,h2⟩:=hr;obtain⟨h3,h4⟩:=gG ps ids (s+1) x jh h2;refine⟨by simp[h3],fun p hp=>?_⟩;simp only[aT]at hp;rcases abM.1 hp with rfl|hp
  ·exact⟨0,u,rfl,rfl,h1⟩
  ·obtain⟨j,u',h5,h6,h7⟩:=h4 p hp;exact⟨j+1,u',by omega,by simpa using h6,h7⟩
 |.own::ps,[],s,x,us,hr=>by
  simp only[aT,List.map_cons,ar]at hr;obtain⟨u,jh,rfl,h1,h2⟩:=hr;obtain⟨h3,h4⟩:=gG ps [] (s+1) x jh h2;refine⟨by simp[h3],fun p hp=>?_⟩;simp only[aT]at hp;rcases abM.1 hp with rfl|hp
  ·exact⟨0,u,rfl,rfl,h1⟩
  ·obtain⟨j,u',h5,h6,h7⟩:=h4 p hp;exact⟨j+1,u',by omega,by simpa using h6,h7⟩
 |.uP f m::ps,ids,s,x,us,hr=>by
  simp only[aT,List.map_cons,ar]at hr;obtain⟨u,jh,rfl,h1,h2⟩:=hr;obtain⟨h3,h4⟩:=gG ps (ids.drop m) (s+1) x jh h2;refine⟨by simp[h3],fun p hp=>?_⟩;simp only[aT]at hp;rcases abM.1 hp with rfl|hp
  ·exact⟨0,u,rfl,rfl,h1⟩
  ·obtain⟨j,u',h5,h6,h7⟩:=h4 p hp;exact⟨j+1,u',by omega,by simpa using h6,h7⟩
 |.agg m::ps,ids,s,x,us,hr=>by
  simp only[aT,List.map_cons,ar]at hr;obtain⟨u,jh,rfl,h1,h2⟩:=hr;obtain⟨h3,h4⟩:=gG ps (ids.drop m) (s+1) x jh h2;refine⟨by simp[h3],fun p hp=>?_⟩;simp only[aT]at hp;rcases abM.1 hp with rfl|hp
  ·exact⟨0,u,rfl,rfl,h1⟩
  ·obtain⟨j,u',h5,h6,h7⟩:=h4 p hp;exact⟨j+1,u',by omega,by simpa using h6,h7⟩
section
variable {An:FuncId→Nat→Option Shape}
theorem Cm(V:Env P Eqs Sg F)(hm:P.follows .mixedOrders=true){f:FuncId}{g:aO}{fn:Func}{y:g.B}{b:Frame}{cs:List Frame}{vh:Act→World→Prop} (tZ:∀st Z ψ a w,rG P g fn st=some y→Ok Z0 w0 O ψ0 Z ψ st.heap.get w→cS Z ψ st.heap.get w fn.ntmps (look st.tmps) a→vh a w) :
  ∀(n:Nat) (sh:Shape) (c:Code) (k:List Item) (x:sh.T) (Z:Nat→Prop) (ψ:Nat→Value) (a:Act) (w:World),mW P Eqs Sg An F f g fn n sh (.inLoop c::k) x=some y → Ok Z0 w0 O ψ0 Z ψ (av sh x).heap.get w→cS Z ψ (av sh x).heap.get w fn.ntmps (look (av sh x).tmps) a→Reach P b cs vh (lone (b.at a (.code c::.inLoop c::k)) cs w)
 |0,sh,c,k,x,Z,ψ,a,w,hx,_,_=>by simp only[mW]at hx;cases hx
 |n+1,sh,c,k,x,Z,ψ,a,w,hx,ko,t=>by simp only[mW]at hx;exact rP V hm (fun sh c k x Z ψ a w h1 h2 h3=>Cm V hm tZ n sh c k x Z ψ a w h1 h2 h3) tZ fuel _ _ Z ψ a w hx ko t
theorem Ho{n i:Nat}(h:i∈aP n):∃j,j<n∧i=1000+20*j:=by
 unfold aP at h;obtain⟨j,h1,rfl⟩:=abW.1 h
 grind
theorem SM{α:Type}{l:List α}{a:α}(h:a∈l):(a,a)∈l.zip l:=by
 induction l with
 |nil=>cases h
 |cons b r ih =>
  simp only[List.zip_cons_cons]
  grind
theorem Mb(V:Env P Eqs Sg F)(hm:P.follows .mixedOrders=true){f:FuncId}{g:aO}{n:Nat}{x:g.A}{y:g.B}(hx:LD P Eqs Sg An F f g n x=some y):FC P f g x y:=by
 intro Z ψ0 w kP hg hr;unfold LD at hx
 split at hx
 ·cases hx
 rename_i fn c YU;have hf:P.funcs[f%1000]? = some fn∧fn.body=some c:=by
  unfold body at YU;obtain⟨fn',h1,h2⟩:=ab6.1 YU;obtain⟨c',h3,h4⟩:=ab5.1 h2
  cases h4
  exact⟨h1,h3⟩
 split at hx
 ·rename_i hle;simp only[Bool.and_eq_true,decide_eq_true_eq]at hle;obtain⟨hlen,aaw⟩:=gG g.ps (aP g.bs.length) 0 x.1 kP hr;intro cs
  let b:Frame:={ (default:Frame) with fn:=f%1000,kind:=.normal }
  let a0:Act:={ tmps:=kP.toArray++Array.replicate (fn.ntmps-kP.toArray.size) undef,defers:=[] }
  have aax:Frame.enter P (f%1000) kP.toArray .normal=b.at a0 [.code c]:=by simp[Frame.enter,Frame.at,hf.1,hf.2,b,a0]
  have ok0:Ok Z w (Own ψ0 (qM g x)) ψ0 Z ψ0 (entry g x).heap.get w :=⟨hg,fun _ h=>h,fun _ h=>.inl h,rfl,rfl,rfl,abX _,fun _ _ _=>rfl,fun _ _ _=>rfl⟩;have tr0:cS Z ψ0 (entry g x).heap.get w fn.ntmps (look (entry g x).tmps) a0:=by
   refine eY (fun p hp=>?_) (by simp[a0];omega) rfl;obtain⟨j,u,h1,h2,h3⟩:=aaw p hp;rw[h1];have hj:j<kP.length:=(aby.1 h2).1;have:a0.tmps.getD (0+j) undef=u:=by rw[Nat.zero_add,Array.getD_eq_getD_getElem?];simp only[a0];rw[Array.getElem?_append_left (by simpa using hj)];simp[h2]
   rw[this];exact h3
  have tZ:∀st Z1 oc a w1,rG P g fn st=some y→Ok Z w (Own ψ0 (qM g x)) ψ0 Z1 oc st.heap.get w1→cS Z1 oc st.heap.get w1 fn.ntmps (look st.tmps) a → a.defers=[]∧∃v,(results fn a.tmps).run P w1=.ok v w1∧∃v' Z' ψ',Ending.returned v=.returned v'∧(∀b,Z b→Z' b)∧(∀b,Z' b→Z b∨Own ψ0 (qM g x) b∨w.heap.size≤b)∧cO ψ0 (qM g x) w w1 ∧ Good Z' ψ' (kQ g y).get w1 w.heap.size (Own ψ0 (qM g x))∧(∀i∈aP g.bs.length,ψ' i=ψ0 i)∧az Z' ψ' (kQ g y).get w1 (fg (aU g.rs (aP g.bs.length) 2000 3000 y.1)) v':=by
   intro st Z1 oc a w1 tZ k t;refine⟨t.defers,?_⟩;unfold rG at tZ
   split at tZ
   ·cases tZ
   rename_i vs sS
   split at tZ
   ·rename_i y1 y2 hd hb Ev
    cases tZ
    simp only[Bool.and_eq_true]at Ev;obtain⟨Js,Hd⟩:=Ev;obtain⟨us,v,h1,h2,h3⟩:=Ju (P:=P) k.dn t sS;have YT:(aP g.bs.length).length=g.bs.length:=by simp[aP]
    let L:List zz:=cw g.bs st.heap (aP g.bs.length) (aP g.bs.length) 2000 y2++cG g.rs vs 3000 y1
    have eH:dM L=kQ g (y1,y2):=by show dM (_++_)=_;rw[nt,jB _ _ _ _ _ _ hb YT,gK];rfl
    have eN:L.map (·.1)=rv g:=by show(_++_:List zz).map _=_;rw[List.map_append,hY _ _ _ _ _ _ hb YT,fQ];rfl
    have eS:L.filterMap (·.2.1)=c8 g.bs st.heap (aP g.bs.length)++dP g.rs vs:=by show(_++_:List zz).filterMap _=_;rw[List.filterMap_append,kN _ _ _ _ _ _ hb YT,jl _ _ _ _ hd]
    have hn:cc (L.map (·.1))=true:=by rw[eN];exact Hd
    have jV:=AO (ψ:=oc) hn;have hz:∀b,Z1 b→rk Z1 oc st.heap.get (gr g.rs vs++gq g.bs st.heap (aP g.bs.length)) b:=fun b hb=>.inl hb;have Iz:=(ta Js).2 st.heap;have g':Good (rk Z1 oc st.heap.get (gr g.rs vs++gq g.bs st.heap (aP g.bs.length))) (eX oc L) (dM L).get w1 w.heap.size (Own ψ0 (qM g x)):=by
     refine yc k.dn Js hn eS fun e he=>?_;rcases abU.1 he with he|he
     ·exact mr k.dn hz g.bs _ _ 2000 y2 hb (fun id b bL h1 h2=>.inr ⟨id,abN _ bL,h1,h2⟩) (fun s hs=>Iz s (abO _ hs)) (fun e he=>jV e (abO _ he)) e he
     ·exact kd g.rs vs 3000 y1 hd (fun s hs=>Iz s (abN _ hs)) e he
    obtain⟨FN,FF⟩:=jC _ _ _ hb;have P3:=td (ids2:=aP g.bs.length) (Z':=rk Z1 oc st.heap.get (gr g.rs vs++gq g.bs st.heap (aP g.bs.length))) (ψ':=eX oc L) (h':=(dM L).get) k.dn hz hb YT (fun e he=>jV e (abO _ he)) g.rs vs 3000 y1 us hd (fun id b bL h1 h2=>.inr ⟨id,abO _ bL,h1,h2⟩) (fun e he=>jV e (abN _ he)) h2;refine⟨v,h1,v,rk Z1 oc st.heap.get (gr g.rs vs++gq g.bs st.heap (aP g.bs.length)),eX oc L,rfl,fun b hb=>.inl (k.fX b hb),fun b hb=>?_,⟨k.os,k.tape,k.output,k.size,k.block⟩,by rw[←eH];exact g',fun i hi=>?_,?_⟩
    ·rcases NB hb with h4|⟨id,h4,h5⟩
     ·exact k.eO b h4
     ·exact .inr (k.dn.live id b h4 h5).2.symm
    ·obtain⟨o,ho⟩:=kO (hh:=st.heap) g.bs (aP g.bs.length) (aP g.bs.length) 2000 y2 FN (i,i) (SM hi);rw[jk hn (List.mem_append_left _ ho)];obtain⟨j,h4,h5⟩:=Ho hi;exact k.fix i (by omega) (FF i hi)
    ·rw[←eH];have RQ:us.length=(aU g.rs (aP g.bs.length) 2000 3000 y1).length:=P3.length.symm;rw[h3]
     match hE:aU g.rs (aP g.bs.length) 2000 3000 y1,us,P3,RQ with
     |[],[],P3,_=>simp only[fg];simp only[az];exact⟨#[],rfl,by simpa using P3⟩
     |[e1],[u],P3,_ =>
      simp only[ar]at P3;obtain⟨u',jh,he,h4,_⟩:=P3
      cases he
      simpa[fg] using h4
     |e1::e2::er,u1::u2::ur,P3,_ =>simp only[fg,az];exact⟨(u1::u2::ur).toArray,by simp,by simpa using P3⟩
   ·cases tZ
  have reach:=rP V hm (b:=b) (cs:=cs) (fun sh c k x Z ψ a w h1 h2 h3=>Cm V hm tZ n sh c k x Z ψ a w h1 h2 h3) tZ fuel _ _ Z ψ0 a0 w hx ok0 tr0;obtain⟨a',w',todo,⟨hd,v,wB,hR⟩,hs⟩:=reach;rw[←aax]at hs;exact⟨.returned v,w',_,hR,hs,rfl,rfl,hd,rfl,fn,hf.1,wB⟩
 ·cases hx
end
theorem Jv(hX:∀f g u,Sg f=some g→g.x=some u→gY P (f%1000) u){G:(f:FuncId)→(g:aO)→Option (g.A→Option g.B)}{An:FuncId→Nat→Option Shape}(Ef:∀t k,Eqs t=some k→mn P t k)(PL:∀f g,Sg f=some g→jD P (f%1000))(hm:P.follows .mixedOrders=true) (hG:∀f g u x y,Sg f=some g→G f g=some u→u x=some y→FC P f g x y):∀(m:Nat) f g x y,Sg f=some g→Fn P Eqs Sg An G m f g x=some y→FC P f g x y
 |0,f,g,x,y,hs,hx=>by
  simp only[Fn]at hx
  split at hx
  ·rename_i u hu;exact hG f g u x y hs hu hx
  ·cases hx
 |m+1,f,g,x,y,hs,hx=>by
  simp only[Fn]at hx
  split at hx
  ·rename_i u hu;exact hG f g u x y hs hu hx
  ·exact Mb ⟨Ef,fun f g x y h1 h2=>Jv hX Ef PL hm hG m f g x y h1 h2,hX,PL⟩ hm hx
end Go.Vs
namespace Go.Vs
abbrev FT:=(f:FuncId)→(g:aO)→g.A→Option g.B
variable {P:Program} {Eqs:TypeId→Option K} {Sg:FuncId→Option aO} {R:Type}
def vJ(p:Nat→Prop):Prop:=∃m,∀m',m≤m'→p m'
theorem vJ.now{p:Nat→Prop}(h:∀m,p m):vJ p:=⟨0,fun m _=>h m⟩
theorem vJ.and{p q r:Nat→Prop}(h:vJ p)(k:vJ q)(hr:∀m,p m→q m→r m):vJ r:=by obtain⟨a,ha⟩:=h;obtain⟨b,hb⟩:=k;exact⟨max a b,fun m hm=>hr m (ha m (by omega)) (hb m (by omega))⟩
theorem vJ.imp{p r:Nat→Prop}(h:vJ p)(hr:∀m,p m→r m):vJ r:=by obtain⟨a,ha⟩:=h;exact⟨a,fun m hm=>hr m (ha m hm)⟩
def To(A:Nat→FT)(L:FT):Prop:=∀f g x y,L f g x=some y→vJ fun m=>A m f g x=some y
def ToK{α:Type}(A:Nat→α→Option R)(L:α→Option R):Prop:=∀x y,L x=some y→vJ fun m=>A m x=some y
def ToJ(A:Nat→(sh:Shape)→List Item→sh.T→Option R)(L:(sh:Shape)→List Item→sh.T→Option R):Prop:=∀sh k x y,L sh k x=some y→vJ fun m=>A m sh k x=some y
theorem SO(h:Heap)(id:Nat)(f:FuncId)(vs:List AV):(∀F F':FT,jy Sg F h id f vs some=jy Sg F' h id f vs some) ∨ ∃ff g x,(∀F F':FT,F ff g x=F' ff g x→jy Sg F h id f vs some=jy Sg F' h id f vs some)∧∀F:FT,F ff g x=none→jy Sg F h id f vs some=none:=by
 unfold jy
 split
 ·simp_all
 rename_i g hg
 split
 ·simp_all
 split
 ·split
  ·split
   ·rename_i x b hx hb hp;refine .inr ⟨_,g,(x,b),fun F F' e=>by rw[e],fun F e=>by rw[e];rfl⟩
   simp_all
  ·split
   ·rename_i x b hx hb hp;refine .inr ⟨_,g,(x,b),fun F F' e=>by rw[e],fun F e=>by rw[e];rfl⟩
   simp_all
 simp_all
theorem Xk{A:Nat→FT}{L:FT}(hA:To A L){h:Heap}{id:Nat}{f:FuncId}{vs:List AV}{e:bD}(he:jy Sg L h id f vs some=some e):vJ fun m=>jy Sg (A m) h id f vs some=some e:=by
 rcases SO (Sg:=Sg) h id f vs with k|⟨ff,g,x,k1,k2⟩
 ·exact .now fun m=>(k _ _).trans he
 ·cases hy:L ff g x with
  |none=>simp_all
  |some y=>exact(hA _ _ _ _ hy).imp fun m hm=>(k1 (A m) L (hm.trans hy.symm)).trans he
theorem Jw{A:Nat→FT}{L:FT}(hA:To A L){id:Nat}{h:Heap}{s:List (Nat×AV)}{o:Oper}{e:bD}(he:cW P Eqs Sg L id h s o some=some e):vJ fun m=>cW P Eqs Sg (A m) id h s o some=some e:=by
 obtain⟨dst,op,type,pos,after,guard⟩:=o
 cases op with
 |call c =>
  obtain⟨callee,args,argTypes⟩:=c
  cases callee with
  |value f =>
   grind [cW,Xk]
  |builtin bi=>cases bi<;>exact .now fun m=>he
  |invoke _ _=>exact .now fun m=>he
 |unOp u _ _=>cases u<;>exact .now fun m=>he
 |makeFunc fn _ _=>cases fn<;>exact .now fun m=>he
 |makeMap _ r=>cases r<;>exact .now fun m=>he
 |next _ b=>cases b<;>exact .now fun m=>he
 |_=>exact .now fun m=>he
theorem vJ.all{p:Nat→Nat→Prop}:∀(n:Nat),(∀j,j<n→vJ (p j))→vJ fun m=>∀j,j<n→p j m
 |0,_=>.now fun m j hj=>absurd hj (Nat.not_lt_zero _)
 |n+1,h=>(vJ.all n fun j hj=>h j (by omega)).and (h n (by omega)) fun m h1 h2 j hj=>by
  grind
theorem Mc{h:Heap}{x:AV}{K:Nat→AV→Heap→Option R}{KL:AV→Heap→Option R}(hK:∀v h y,KL v h=some y→vJ fun m=>K m v h=some y){r:R}(he:lJ h x KL=some r):vJ fun m=>lJ h x (K m)=some r:=by
 unfold lJ at he ⊢
 split at he
 ·rename_i id
  split at he
  ·rename_i kk vk p hg
   try simp only[hg]
   cases hp:p.2 with
   |nil =>simp_all
   |cons c l =>simp only[hp,List.isEmpty_cons,cond_false]at he ⊢;have h1:=oL he;refine(vJ.all _ fun j hj=>?_).imp fun m hm=>nE (by simp) hm;simp_all
  ·cases he
 ·cases he
theorem SP{h:Heap}{x:AV}{want:Bool}{K:Nat→AV→Option R}{KL:AV→Option R}(hK:∀v y,KL v=some y→vJ fun m=>K m v=some y){r:R}(he:vP h x want KL=some r):vJ fun m=>vP h x want (K m)=some r:=by
 unfold vP at he ⊢
 split at he
 ·simp_all
 ·rename_i xs hv
  cases BC:xs.isEmpty with
  |true =>simp only[BC,cond_true]at he ⊢;have h1:=oL he;exact(vJ.all _ fun j hj=>hK _ _ (h1 j hj)).imp fun m hm=>nE (by decide) hm
  |false =>simp_all
 ·cases he
theorem Cn{A:Nat→FT}{L:FT}(hA:To A L){rid:Nat}{draw:Bool}{ops:Array Oper}{b:Array Nat}{K:Nat→St→Option R}{KL:St→Option R}(hK:ToK K KL) :
  ∀(l:List (Nat×Oper)) (st:St) (r:R),bG P Eqs Sg L rid draw ops b l st KL=some r→vJ fun m=>bG P Eqs Sg (A m) rid draw ops b l st (K m)=some r
 |[],st,r,he=>hK st r (by grind [bG])
 |(i,o)::l,st,r,he=>by
  have ih:=Cn hA (rid:=rid) (draw:=draw) (ops:=ops) (b:=b) hK l;have run:∀st:St,(match (if draw then none else pQ P (opId rid i) st o) with
    |some eP=>bG P Eqs Sg L rid draw ops b l eP KL
    |none=>match (if draw then none else vO o) with
    |some x=>lJ st.heap (ρ st.tmps x) fun v h=>bG P Eqs Sg L rid draw ops b l (({ st with heap:=h }:St).put o.dst v) KL
    |none=>match (if draw then none else isNil P o) with
    |some (x,want)=>vP st.heap (ρ st.tmps x) want fun v=>bG P Eqs Sg L rid draw ops b l (st.put o.dst v) KL
    |none=>if draw then cW P Eqs Sg L (opId rid i) (hM (ahead rid (b.getD i 0) st.heap) (gV ops b i st.tmps o)) st.tmps o fun e =>
     if(gQ true rid ops b i (b.getD i 0) (gW (gV ops b i st.tmps o) (ahead rid (b.getD i 0) st.heap) e)&&mh (gV ops b i st.tmps o) e)=true then
      bG P Eqs Sg L rid draw ops b l ({ st with heap:=match gW (gV ops b i st.tmps o) (ahead rid (b.getD i 0) st.heap) e with | .wr _ h=>h|e=>e.h st.heap }.put o.dst e.v) KL else none
     else cW P Eqs Sg L (opId rid i) st.heap st.tmps o fun e =>
     if gQ false rid ops b i (2 ^ i-1) e then bG P Eqs Sg L rid draw ops b l ({ st with heap:=match e with | .wr _ h=>h|e=>e.h st.heap }.put o.dst e.v) KL else none)=some r →
    vJ fun m=>(match (if draw then none else pQ P (opId rid i) st o) with
    |some eP=>bG P Eqs Sg (A m) rid draw ops b l eP (K m)
    |none=>match (if draw then none else vO o) with
    |some x=>lJ st.heap (ρ st.tmps x) fun v h=>bG P Eqs Sg (A m) rid draw ops b l (({ st with heap:=h }:St).put o.dst v) (K m)
    |none=>match (if draw then none else isNil P o) with
    |some (x,want)=>vP st.heap (ρ st.tmps x) want fun v=>bG P Eqs Sg (A m) rid draw ops b l (st.put o.dst v) (K m)
    |none=>if draw then cW P Eqs Sg (A m) (opId rid i) (hM (ahead rid (b.getD i 0) st.heap) (gV ops b i st.tmps o)) st.tmps o fun e =>
     if(gQ true rid ops b i (b.getD i 0) (gW (gV ops b i st.tmps o) (ahead rid (b.getD i 0) st.heap) e)&&mh (gV ops b i st.tmps o) e)=true then
      bG P Eqs Sg (A m) rid draw ops b l ({ st with heap:=match gW (gV ops b i st.tmps o) (ahead rid (b.getD i 0) st.heap) e with | .wr _ h=>h|e=>e.h st.heap }.put o.dst e.v) (K m) else none
     else cW P Eqs Sg (A m) (opId rid i) st.heap st.tmps o fun e =>
     if gQ false rid ops b i (2 ^ i-1) e then bG P Eqs Sg (A m) rid draw ops b l ({ st with heap:=match e with | .wr _ h=>h|e=>e.h st.heap }.put o.dst e.v) (K m) else none)=some r:=by
   intro st h
   split at h
   ·simp_all
   rename_i qg
   split at h
   ·rename_i x PX
    try simp only[qg,PX]
    exact Mc (fun v h y hy=>ih _ y hy) h
   rename_i PX
   split at h
   ·rename_i x want hnl
    try simp only[qg,PX,hnl]
    exact SP (fun v y hy=>ih _ y hy) h
   rename_i hnl
   try simp only[qg,PX,hnl]
   cases draw with
   |true =>
    simp only[if_true]at h ⊢;rw[lW]at h;obtain⟨e,h1,h2⟩:=ab6.1 h;by_cases hc:(gQ true rid ops b i (b.getD i 0) (gW (gV ops b i st.tmps o) (ahead rid (b.getD i 0) st.heap) e)&&mh (gV ops b i st.tmps o) e)=true
    ·rw[if_pos hc]at h2;refine(Jw hA h1).and (ih _ r h2) fun m h3 h4=>?_;rw[lW,h3,Option.bind_some,if_pos hc];exact h4
    simp_all
   |false =>
    simp only[Bool.false_eq_true,if_false]at h ⊢;rw[lW]at h;obtain⟨e,h1,h2⟩:=ab6.1 h;by_cases hc:gQ false rid ops b i (2 ^ i-1) e=true
    ·rw[if_pos hc]at h2;refine(Jw hA h1).and (ih _ r h2) fun m h3 h4=>?_;rw[lW,h3,Option.bind_some,if_pos hc];exact h4
    simp_all
  simp only[bG]at he ⊢
  split at he
  ·rename_i hg
   try simp only[hg]
   exact run _ he
  ·rename_i j want hg
   try simp only[hg]
   split at he
   ·cases he
   ·rename_i d hd
    try simp only[hd]
    split at he
    ·rename_i t ht
     try simp only[ht]
     cases t<;>cases want<;>simp only[cond_true,cond_false,if_true,if_false,Bool.false_eq_true]at he ⊢<;>first|exact run _ he|grind
    ·grind
    ·cases he
theorem EA{A:Nat→FT}{L:FT}(hA:To A L){n rid:Nat}{ops:Array Oper}{draw:Bool}{K:Nat→St→Option R}{KL:St→Option R}(hK:ToK K KL){st:St}{r:R} (he:iR P Eqs Sg L n rid ops draw st KL=some r):vJ fun m=>iR P Eqs Sg (A m) n rid ops draw st (K m)=some r:=by
 unfold iR at he ⊢;by_cases hc:((ops.all fun o=>iQ n o)&&(!draw || (vN ops (if draw then Region.before ops else #[])&&(Bq ops (if draw then Region.before ops else #[])&&cc (ops.toList.filterMap (·.dst)))))&&decide (ops.size≤128))=true
 ·dsimp only at he ⊢
  rw[if_pos hc]at he;refine(Cn hA hK _ _ r he).imp fun m hm=>?_;simp_all
 simp_all
theorem gM{A:Nat→FT}{L:FT}(hA:To A L){n:Nat}{ann:Nat→Option Shape}{J:Nat→(sh:Shape)→List Item→sh.T→Option R}{JL:(sh:Shape)→List Item→sh.T→Option R}(hJ:ToJ J JL){ret:St→Option R} :
  ∀(fu:Nat) (items:List Item) (st:St) (r:R),aD P Eqs Sg L n ann JL ret fu items st=some r→vJ fun m=>aD P Eqs Sg (A m) n ann (J m) ret fu items st=some r
 |0,items,st,r,he=>by grind [aD]
 |fu+1,[],st,r,he=>.now fun m=>by grind [aD]
 |fu+1,it::Rz,st,r,he=>by
  have ih:=gM hA (n:=n) (ann:=ann) hJ (ret:=ret) fu
  cases it with
  |inBlock id=>grind [aD]
  |inScope c=>grind [aD]
  |inLoop c =>
   simp only[aD]at he ⊢
   split at he
   ·cases he
   ·rename_i sh hsh
    try simp only[hsh]
    split at he
    ·rename_i x hx
     try simp only[hx]
     exact hJ _ _ _ _ he
    ·cases he
  |code c =>
   cases c with
   |cond c x y =>
    simp only[aD]at he ⊢
    grind
   |exit id =>
    grind [aD]
   |ret=>exact .now fun m=>by grind [aD]
   |region id ops draw =>simp only[aD]at he ⊢;exact EA hA (K:=fun m eP=>aD P Eqs Sg (A m) n ann (J m) ret fu Rz eP) (fun st y h=>ih Rz st y h) he
   |skip=>grind [aD]
   |label l=>grind [aD]
   |seq x y=>grind [aD]
   |block id c=>grind [aD]
   |scope c=>grind [aD]
   |loop c=>grind [aD]
   |_=>grind [aD]
  |_=>grind [aD]
section
variable {An:FuncId→Nat→Option Shape} {G:(f:FuncId)→(g:aO)→Option (g.A→Option g.B)}
def FLe(F F':FT):Prop:=∀f g x y,F f g x=some y→F' f g x=some y
theorem FLe.to{F F':FT}(h:FLe F F'):To (fun _=>F') F:=fun f g x y hy=>.now fun _=>h f g x y hy
theorem vJ.get{p:Prop}(h:vJ fun _=>p):p:=by obtain⟨m,hm⟩:=h;exact hm m (abX _)
theorem oO{F F':FT}(h:FLe F F'){f:FuncId}{g:aO}{fn:Func}:∀(n n':Nat) (sh:Shape) (k:List Item) (x:sh.T) (y:g.B),n≤n'→mW P Eqs Sg An F f g fn n sh k x=some y→mW P Eqs Sg An F' f g fn n' sh k x=some y
 |0,_,_,_,_,_,_,hx=>by grind [mW]
 |n+1,0,_,_,_,_,hn,_=>by omega
 |n+1,n'+1,sh,k,x,y,hn,hx=>by
  cases k with
  |nil=>grind [mW]
  |cons it k =>
   cases it with
   |inLoop c =>simp only[mW]at hx ⊢;exact(gM h.to (J:=fun _=>mW P Eqs Sg An F' f g fn n') (JL:=mW P Eqs Sg An F f g fn n) (fun sh k x y hy=>.now fun _=>oO h n n' sh k x y (by omega) hy) _ _ _ _ hx).get
   |_=>grind [mW]
theorem P4{F F':FT}(h:FLe F F'){f:FuncId}{g:aO}{n n':Nat}{x:g.A}{y:g.B}(hn:n≤n')(hx:LD P Eqs Sg An F f g n x=some y):LD P Eqs Sg An F' f g n' x=some y:=by
 unfold LD at hx ⊢
 split at hx
 ·cases hx
 ·rename_i fn c hb
  try simp only[hb]
  split at hx
  ·rename_i hc;simp only[if_pos hc];exact(gM h.to (J:=fun _=>mW P Eqs Sg An F' f g fn n') (JL:=mW P Eqs Sg An F f g fn n) (fun sh k x y hy=>.now fun _=>oO h n n' sh k x y hn hy) _ _ _ _ hx).get
  ·cases hx
theorem AW:∀m,FLe (Fn P Eqs Sg An G m) (Fn P Eqs Sg An G (m+1))
 |0,f,g,x,y,hx=>by
  grind [Fn]
 |m+1,f,g,x,y,hx=>by
  rw[Fn]at hx ⊢
  split at hx
  ·omega
  ·rename_i hu
   try simp only[hu]
   exact P4 (AW m) (Nat.le_succ m) hx
theorem AX{m m':Nat}(h:m≤m'):FLe (Fn P Eqs Sg An G m) (Fn P Eqs Sg An G m'):=by
 induction h with
 |refl=>exact fun _ _ _ _ h=>h
 |step _ ih=>exact fun f g x y hx=>AW _ f g x y (ih f g x y hx)
variable (P Eqs Sg An G) in
open Classical in
noncomputable def Fix:FT:=fun f g x=>if h:∃m y,Fn P Eqs Sg An G m f g x=some y then some (Classical.choose (Classical.choose_spec h)) else none
theorem Hq:To (Fn P Eqs Sg An G) (Fix P Eqs Sg An G):=fun f g x y hy=>by
 unfold Fix at hy
 split at hy
 ·rename_i h
  cases hy
  exact⟨Classical.choose h,fun m' hm=>AX hm _ _ _ _ (Classical.choose_spec (Classical.choose_spec h))⟩
 ·cases hy
theorem SQ{m:Nat}{f:FuncId}{g:aO}{x:g.A}{y:g.B}(h:Fn P Eqs Sg An G m f g x=some y):Fix P Eqs Sg An G f g x=some y:=by
 have he:∃m y,Fn P Eqs Sg An G m f g x=some y:=⟨m,y,h⟩
 cases hy:Fix P Eqs Sg An G f g x with
 |none=>simp_all [Fix,dif_pos]
 |some y' =>obtain⟨m1,h1⟩:=Hq f g x y' hy;have h2:=h1 (max m m1) (by omega);have h3:=AX (show m≤max m m1 by omega) f g x y h;simp_all
variable (P Eqs Sg An G) in
open Classical in
noncomputable def Lp(f:FuncId)(g:aO)(fn:Func)(sh:Shape)(k:List Item)(x:sh.T):Option g.B :=if h:∃m y,mW P Eqs Sg An (Fn P Eqs Sg An G m) f g fn m sh k x=some y then some (Classical.choose (Classical.choose_spec h)) else none
theorem SR{f:FuncId}{g:aO}{fn:Func}:ToJ (fun m=>mW P Eqs Sg An (Fn P Eqs Sg An G m) f g fn m) (Lp P Eqs Sg An G f g fn):=fun sh k x y hy=>by
 unfold Lp at hy
 split at hy
 ·rename_i h
  cases hy
  exact⟨Classical.choose h,fun m' hm=>oO (AX hm) _ _ _ _ _ _ hm (Classical.choose_spec (Classical.choose_spec h))⟩
 ·cases hy
theorem ac1{m:Nat}{f:FuncId}{g:aO}{fn:Func}{sh:Shape}{k:List Item}{x:sh.T}{y:g.B}(h:mW P Eqs Sg An (Fn P Eqs Sg An G m) f g fn m sh k x=some y):Lp P Eqs Sg An G f g fn sh k x=some y:=by
 have he:∃m y,mW P Eqs Sg An (Fn P Eqs Sg An G m) f g fn m sh k x=some y:=⟨m,y,h⟩
 cases hy:Lp P Eqs Sg An G f g fn sh k x with
 |none=>simp_all [Lp,dif_pos]
 |some y' =>obtain⟨m1,h1⟩:=SR sh k x y' hy;have h2:=h1 (max m m1) (by omega);have h3:=oO (AX (show m≤max m m1 by omega)) m (max m m1) sh k x y (by omega) h;simp_all
theorem NC{f:FuncId}{g:aO}{x:g.A}{y:g.B}{fn:Func}{c:Code}(hG:G f g=none)(hb:body P (f%1000)=some (fn,c))(hc:(decide (g.ps.length≤fn.ntmps)&&decide (g.bs.length≤8))=true) (h:aD P Eqs Sg (Fix P Eqs Sg An G) fn.ntmps (An f) (Lp P Eqs Sg An G f g fn) (rG P g fn) fuel [.code c] (entry g x)=some y):Fix P Eqs Sg An G f g x=some y:=by obtain⟨m,hm⟩:=gM (Hq (P:=P) (Eqs:=Eqs) (Sg:=Sg) (An:=An) (G:=G)) (SR (f:=f) (g:=g) (fn:=fn)) _ _ _ _ h;refine SQ (m:=m+1) ?_;simp_all [Fn,LD,if_pos,Nat.le_refl]
theorem FO{f:FuncId}{g:aO}{x:g.A}{y:g.B}{u:g.A→Option g.B}(hG:G f g=some u)(h:u x=some y):Fix P Eqs Sg An G f g x=some y:=by
 refine SQ (m:=0) ?_
 grind [Fn]
theorem SS{f:FuncId}{g:aO}{fn:Func}{sh:Shape}{c:Code}{k:List Item}{x:sh.T}{y:g.B} (h:aD P Eqs Sg (Fix P Eqs Sg An G) fn.ntmps (An f) (Lp P Eqs Sg An G f g fn) (rG P g fn) fuel (.code c::.inLoop c::k) (av sh x)=some y):Lp P Eqs Sg An G f g fn sh (.inLoop c::k) x=some y:=by obtain⟨m,hm⟩:=gM (Hq (P:=P) (Eqs:=Eqs) (Sg:=Sg) (An:=An) (G:=G)) (SR (f:=f) (g:=g) (fn:=fn)) _ _ _ _ h;refine ac1 (m:=m+1) ?_;simp only[mW];refine(gM (L:=Fn P Eqs Sg An G m) (FLe.to (AW m)) (J:=fun _=>mW P Eqs Sg An (Fn P Eqs Sg An G (m+1)) f g fn m) (JL:=mW P Eqs Sg An (Fn P Eqs Sg An G m) f g fn m) (fun sh k x y hy=>.now fun _=>oO (AW m) m m sh k x y (abX _) hy) _ _ _ _ (hm m (abX _))).get
theorem AY(hX:∀f g u,Sg f=some g→g.x=some u→gY P (f%1000) u)(Ef:∀t k,Eqs t=some k→mn P t k)(PL:∀f g,Sg f=some g→jD P (f%1000))(hm:P.follows .mixedOrders=true) (hG:∀f g u x y,Sg f=some g→G f g=some u→u x=some y→FC P f g x y) {f:FuncId} {g:aO} {x:g.A} {y:g.B} (hs:Sg f=some g) (h:Fix P Eqs Sg An G f g x=some y):FC P f g x y:=by obtain⟨m,YG⟩:=Hq f g x y h;exact Jv hX Ef PL hm hG m f g x y hs (YG m (abX _))
end
end Go.Vs
namespace Go.Vs
open Go.Proofs
abbrev ab:=((Int×Int)×Int)
abbrev ID:=(Int×Int)
abbrev ai:=(ID×((List ab)×(ByteArray×Int)))
abbrev aj:=(ID×(ByteArray×Int))
abbrev ak:=((List ai)×(List aj))
abbrev ax:=(ab×ab)
abbrev StateT:=(ak×(List ax))
abbrev qP:=(ID×ab)
abbrev bg:=(Int×(ID×(ID×(ID×(qP×(qP×(Bool×(ByteArray×Int))))))))
abbrev aV:=((List ai)×((List aj)×((List ax)×Unit)))
abbrev lI{α:Type}(l:List α):Int:=((l.length:Nat):Int)
abbrev wI(n:Int):Int:=IntKind.wrap .i64 n
abbrev OI:ID:=(0,0)
abbrev OD:ab:=(OI,0)
abbrev OC:qP:=(OI,OD)
abbrev OB:ByteArray:=⟨#[]⟩
abbrev OS:StateT:=(([],[]),[])
abbrev OW:aV:=([],([],([],())))
abbrev k13:K:=(.pair .str (.int .u64))
abbrev fZ:K:=(.pair (.int .i64) (.int .i64))
abbrev k68:K:=(.pair .str (.pair (.int .i64) .bool))
abbrev bf:K:=(.pair fZ (.int .i64))
abbrev k7:K:=(.pair (.int .i64) (.pair (.int .i64) (.pair .bool (.int .u8))))
abbrev dz:K:=(.pair fZ (.pair .str (.int .i64)))
abbrev SU:K:=(.pair fZ bf)
abbrev cJ:K:=(.pair bf bf)
abbrev cX:K:=(.pair fZ (.pair (.sl bf) (.pair .str (.int .i64))))
abbrev dA:K:=(.pair (.sl cX) (.sl dz))
abbrev lu:K:=(.pair dA (.sl cJ))
abbrev ua:K:=(.pair (.int .i64) (.pair fZ (.pair fZ (.pair fZ (.pair SU (.pair SU (.pair .bool (.pair .str (.int .i64)))))))))
abbrev oP:K:=(.one (.sl ua))
def qi(xs:List ai)(ys:List aj):Bool:=decide (xs.length≤50000000)&&(decide (ys.length≤50000000)&&xs.all fun v=>decide (v.2.1.length≤50000000))
def Hr(h:Heap)(id:Nat):List AV→Option (Bool×bD)
 |[.agg [.bI a,.bI b]]=>match dZ h (.row 38 cX) (.bI a),dZ h (.row 84 dz) (.bI b) with
  |some xs,some ys=>if a=b then none else some (qi xs ys,.new (.agg [.bI (id+128),.bI (id+129)]) [(id+128,.own (.row 38 cX) xs),(id+129,.own (.row 84 dz) ys)])
  |_,_=>none
 |_=>none
abbrev ael(a:List PK)(b:List RK):aO:={ ps:=a,bs:=[],rs:=b }
abbrev aeN:K:=.int .i64
def SV:=ael [.val lu,.val ua] [.val lu,.val aeN]
def SW:=ael [.val lu,.val lu] [.val .bool]
def q9:=ael [.val dA,.val fZ] [.val cX,.val .bool]
def Co:=ael [.val fZ] [.val .bool]
def vj:=ael [.val dA,.val bf] [.val fZ,.val .bool]
def As:=ael [.val dA,.val fZ] [.val dz,.val .bool]
def Jx:=ael [.val dA,.val bf] [.val (.sl bf)]
def EB:=ael [.val bf] [.val bf]
def rR:=ael [.val (.sl bf),.val bf] [.val aeN]
def P5:=ael [.val (.sl bf),.val bf] [.val bf,.val .bool]
def Cp:=ael [.val dA,.val dA] [.val .bool]
def Hs:=ael [.val .str] [.val .bool]
def P6:=ael [.val aeN] [.val .bool]
def Md:=ael [.val lu,.val oP] [.val lu,.val aeN]
def Jy:=ael [.val dA] [.own (.row 36 (.sl bf))]
def Jz:=ael [.val dA] [.val aeN]
def JA:=ael [.val lu,.val oP] [.val lu,.val aeN]
def EC:=ael [.val lu,.val oP] [.val lu]
def SX:=ael [.val lu,.val oP] [.val lu]
def ED:=ael [.val dA] [.agg [.own (.row 38 cX),.own (.row 84 dz)]]
def JB:=ael [.val oP] [.val aeN]
def SY:=ael [.val ua] [.val aeN]
def JC:=ael [.val lu,.val (.sl ua)] [.val lu,.val aeN]
def P7:=ael [.val ua] [.val aeN]
def Ht:=ael [.val dA,.val cX] [.val dA]
def qj:=ael [.val dA,.val fZ,.val fZ] [.val dA]
def SZ:=ael [.val lu,.val ua] [.val lu,.val aeN]
def S4:=ael [.val lu,.val ua] [.val lu,.val aeN]
def S5:=ael [.val lu,.val ua] [.val lu,.val aeN]
def Au:=ael [.val lu,.val ua] [.val lu,.val aeN]
def Cq:=ael [.val lu,.val ua] [.val lu,.val aeN]
def Hu:=ael [.val (.sl cJ),.val (.sl cJ)] [.val .bool]
def P8:=ael [.val dA,.val bf] [.val bf,.val .bool]
def EE:=ael [.val dA,.val fZ] [.val aeN]
def ub:=ael [.val dA] [.own (.row 3 aeN)]
def JD:=ael [.val (.sl bf),.val (.sl bf)] [.val .bool]
def JE:=ael [.val oP] [.val aeN]
def Hv:=ael [.val dA] [.own (.row 40 bf)]
def Hw:=ael [.val dA] [.agg [.own (.row 38 cX),.own (.row 84 dz)]]
def JF:=ael [.val (.sl cJ)] [.own (.row 42 cJ)]
def P9:=ael [.val bf,.val bf] [.val aeN]
def JG:=ael [.val dA] [.val aeN]
def S6:=ael [.val ua] [.val ua,.val aeN]
def Hy:aO:={ ps:=[.ref,.val ua],bs:=[.box 128 [.own (.row 38 cX),.own (.row 84 dz),.val (.sl cJ)]],rs:=[.val aeN] }
def Qa:=ael [.val ua] [.val ua]
def Qb:=ael [.val SU] [.val .bool]
def JH:=ael [.val fZ,.val fZ] [.val aeN]
def Qc:=ael [.val lu,.val SU] [.val SU,.val aeN]
def Av:=ael [.val dA,.val dz] [.val dA]
def Aw:=ael [.val dA,.val SU,.val bf] [.val dA]
def Ax:=ael [.val (.sl cJ),.val cJ] [.val (.sl cJ)]
def Qd:=ael [.val dA,.val bf] [.val bf]
def Qe:=ael [.val dA,.val bf] [.val dA]
def JI:=ael [.val dA,.val bf,.val bf] [.val dA]
def rf:=ael [.val (.sl bf)] [.own (.row 40 bf)]
def S7:=ael [.val dA,.val bf] [.val bf,.val .bool]
def Qf:=ael [.val (.sl cX)] [.own (.row 38 cX)]
def Qg:=ael [.val (.sl dz)] [.own (.row 84 dz)]
def Ay:=ael [.val (.sl bf)] [.own (.row 40 bf)]
def Hz:=ael [.val dA] [.val aeN,.val aeN,.val aeN,.val aeN]
def rh:=ael [.val fZ] [.val .bool]
def EF:=ael [.val SU] [.val .bool]
def wC:=ael [.val .str] [.val .bool]
def HA:=ael [.val aeN] [.val .bool]
def JJ:aO:={ ps:=[.ref,.val cX],bs:=[.box 128 [.own (.row 38 cX),.own (.row 84 dz),.val (.sl cJ)]],rs:=[.val aeN] }
def S8:aO:={ ps:=[.ref,.val ua],bs:=[.box 128 [.own (.row 38 cX),.own (.row 84 dz),.val (.sl cJ)]],rs:=[.val aeN] }
def qk:aO:={ ps:=[.ref,.val ua],bs:=[.box 128 [.own (.row 38 cX),.own (.row 84 dz),.val (.sl cJ)]],rs:=[.val aeN] }
def Cr:aO:={ ps:=[.ref,.val ua],bs:=[.box 128 [.own (.row 38 cX),.own (.row 84 dz),.val (.sl cJ)]],rs:=[.val aeN] }
def Az:aO:={ ps:=[.ref,.val ua],bs:=[.box 128 [.own (.row 38 cX),.own (.row 84 dz),.val (.sl cJ)]],rs:=[.val aeN] }
def rS:aO:={ ps:=[.ref,.val ua],bs:=[.box 128 [.own (.row 38 cX),.own (.row 84 dz),.val (.sl cJ)]],rs:=[.val aeN] }
def Ta:aO:={ ps:=[.ref,.val ua],bs:=[.box 128 [.own (.row 38 cX),.own (.row 84 dz),.val (.sl cJ)]],rs:=[.val aeN] }
def Tb:=ael [.val bf] [.val .bool]
def JK:=ael [.val lu,.val bf] [.val bf]
def EG:=ael [.val dA,.val fZ,.val (.sl bf)] [.val dA]
def zQ:=ael [.val (.sl bf),.val bf,.val bf] [.own (.row 40 bf)]
def uC:=ael [.val (.sl cJ),.val bf] [.val bf,.val .bool]
def zR:=ael [.val (.sl bf),.val bf] [.own (.row 40 bf)]
def JM:=ael [.val (.sl bf),.val bf,.val bf] [.own (.row 40 bf)]
def JN:=ael [.val (.sl bf),.val bf] [.val bf,.val .bool]
def JO:=ael [.val bf] [.val .bool]
def qQ:aO:={ ps:=[.ref,.val fZ],bs:=[.box 128 [.own (.row 38 cX),.own (.row 84 dz),.val (.sl cJ)]],rs:=[.val aeN,.val .bool] }
def YV:aO:={ ps:=[],bs:=[],rs:=[],x:=some (RJ 38 cX) }
def YW:aO:={ ps:=[],bs:=[],rs:=[],x:=some (WE 38 cX) }
def zT:aO:={ ps:=[.ref,.val fZ],bs:=[.box 128 [.own (.row 38 cX),.own (.row 84 dz),.val (.sl cJ)]],rs:=[.val aeN] }
def Cs:=ael [.val fZ] [.val bf,.val bf]
def JP:=ael [.val lu,.val SU] [.val SU,.val aeN]
def Ct:=ael [.val (.sl bf),.val bf,.val bf] [.own (.row 40 bf)]
def zU:=ael [.val dA] [.val .bool]
def nG:aO:={ ps:=[.ref,.val fZ],bs:=[.box 128 [.own (.row 38 cX),.own (.row 84 dz),.val (.sl cJ)]],rs:=[.val aeN,.val .bool] }
def Cu:aO:={ ps:=[.ref,.val bf,.val bf],bs:=[.box 128 [.own (.row 38 cX),.own (.row 84 dz),.val (.sl cJ)]],rs:=[] }
def Cv:aO:={ ps:=[.ref,.val bf],bs:=[.box 128 [.own (.row 38 cX),.own (.row 84 dz),.val (.sl cJ)]],rs:=[.val bf] }
def mE:aO:={ ps:=[.ref,.val bf],bs:=[.box 128 [.own (.row 38 cX),.own (.row 84 dz),.val (.sl cJ)]],rs:=[.eV 0 [(0,5,0)]] }
def JQ:=ael [.val (.sl bf),.val bf] [.own (.row 40 bf)]
def YX:aO:={ ps:=[],bs:=[],rs:=[],x:=some (WE 84 dz) }
def uD:=ael [.val (.sl bf),.val bf,.val bf] [.own (.row 40 bf)]
def oQ:=ael [.val bf] [.val bf]
def qR:=ael [.val (.sl bf)] [.own (.row 40 bf)]
def JR:aO:={ ps:=[.ref,.val ua],bs:=[.box 128 [.own (.row 38 cX),.own (.row 84 dz),.val (.sl cJ)]],rs:=[.eV 0 [(0,5,3),(1,4,2)],.eV 0 [(0,5,4),(1,4,3)]] }
def FP:=ael [.val cX,.val fZ] [.val aeN]
def zX:=ael [.val fZ,.val fZ] [.val aeN]
def YY:aO:={ ps:=[],bs:=[],rs:=[],x:=some (RJ 84 dz) }
def JS:=ael [.val dA,.val fZ] [.val cX,.val .bool]
def zY:=ael [.val lu,.val bf] [.val bf]
def wD:=ael [.val (.sl bf),.val bf] [.val .bool]
def mF:=ael [.val (.sl bf),.val bf] [.val aeN]
def oR:=ael [.val (.sl (.sl bf))] [.own (.row 40 bf)]
def JU:=ael [.val dA] [.val aeN]
def FQ:=ael [.val dz,.val fZ] [.val aeN]
def JV:=ael [.val (.sl cJ),.val cJ] [.own (.row 42 cJ)]
def FR:=ael [.val (.sl bf),.val bf] [.val bf,.val .bool]
def FU:=ael [.val bf,.val bf] [.val aeN]
def oS:=ael [.val (.sl (.sl bf))] [.own (.row 40 bf)]
def wE:=ael [.val (.sl aeN)] [.val aeN]
def Cw:=ael [.val aeN,.val aeN] [.val aeN]
def Cx:=ael [.val cX] [.val fZ]
def wF:=ael [.val dA,.val bf] [.val fZ,.val .bool]
def JW:=ael [.val (.sl cJ),.val bf] [.val bf,.val .bool]
def JX:=ael [.val dA] [.val aeN,.val aeN,.val aeN,.val aeN]
def FV:=ael [.val cJ,.val bf] [.val aeN]
def YZ:aO:={ ps:=[],bs:=[],rs:=[],x:=some (RJ 42 cJ) }
def Cz:=ael [.val (.sl bf),.val bf,.val aeN] [.val bf,.val .bool]
def Y0:aO:={ ps:=[],bs:=[],rs:=[],x:=some (RL 40 bf) }
def CA:=ael [.val aeN] [.val .bool]
def JY:aO:={ ps:=[.val cJ,.ref],bs:=[.box 40 [.val aeN,.val aeN,.val aeN]],rs:=[.val .bool] }
def JZ:=ael [.val cX] [.val .bool]
def zZ:=ael [.val dA] [.own (.row 36 (.sl bf))]
def z5:=ael [.val dA] [.val aeN]
def wG:=ael [.val dA] [.own (.row 40 bf)]
def Y1:=ael [.val dA] [.own (.row 163 (.sl fZ))]
def FY:=ael [.val dA,.val bf] [.val bf,.val .bool]
def ij:=ael [.val dA] [.own (.row 3 aeN)]
def z6:=ael [.val dA,.val bf] [.val bf,.val .bool]
def J0:aO:={ ps:=[.own,.val aeN,.val aeN],bs:=[.own (.row 3 aeN)],rs:=[] }
def rT:aO:={ ps:=[.own,.val aeN],bs:=[.own (.row 3 aeN)],rs:=[.val aeN] }
def J1:=ael [.val (.sl bf),.val bf] [.val bf,.val .bool]
def jF:=ael [.val (.sl cX),.val fZ,.uP 188 0] [.val aeN,.val .bool]
def jG:=ael [.val (.sl dz),.val fZ,.uP 198 0] [.val aeN,.val .bool]
def kX:=ael [.val (.sl bf),.uP 73 0] [.val bf]
def kY:=ael [.val (.sl cX),.uP 135 0,.val fZ] [.val cX,.val .bool]
def jH:=ael [.val (.sl cJ),.val bf,.uP 219 0] [.val aeN,.val .bool]
def jI:aO:={ ps:=[.val (.sl cJ),.uP 231 1],bs:=[.box 40 [.val bf]],rs:=[.val aeN] }
def kZ:=ael [.val (.sl cX),.uP 206 0] [.val aeN]
def J2:aO:={ ps:=[],bs:=[],rs:=[],x:=some Hr }
def Td:=ael [] []
abbrev k98:K:=(.pair oP fZ)
abbrev k99:K:=(.pair lu (.pair aeN (.sl oP)))
abbrev gR:=(StateT×(Int×((List (List bg))×Unit)))
abbrev Q47:=(((List Int)×(Int×Unit))×Unit)
abbrev Q48:=((Int×(StateT×(Int×Unit)))×Unit)
abbrev Q49:=((Int×((List Int)×(Bool×Unit)))×Unit)
abbrev Q50:=((Int×Unit)×(((List Int)×(Bool×Unit))×Unit))
abbrev Q51:=((ID×((List Int)×(Bool×Unit)))×Unit)
abbrev Te:=(((List Int)×Unit)×Unit)
abbrev Y2:=((Bool×Unit)×((Unit×Unit)×Unit))
abbrev Q45:=(((List Bool)×Unit)×Unit)
abbrev Q46:=((Int×Unit)×((Unit×Unit)×Unit))
abbrev Q40:=((List bg)×ID)
abbrev Q41:=(((List (List bg))×(Int×Unit))×(gR×Unit))
abbrev Q42:=((StateT×Unit)×(gR×Unit))
abbrev Q0:=((Bool×Unit)×Unit)
abbrev Q1:=((StateT×(Int×Unit))×Unit)
abbrev Q2:=((Int×Unit)×Unit)
abbrev Q3:=(((List bg)×Unit)×Unit)
abbrev Q4:=((StateT×Unit)×Unit)
abbrev Q5:=((ak×Unit)×Unit)
abbrev Q6:=(((List ab)×Unit)×Unit)
abbrev Q7:=((ai×(Bool×Unit))×Unit)
abbrev Q8:=(List bg)
abbrev Q9:=((Int×Unit)×(gR×Unit))
abbrev Q10:=((aj×(Bool×Unit))×Unit)
abbrev HB:=((ab×Unit)×Unit)
abbrev ND:=((ab×(Bool×Unit))×Unit)
abbrev Wr:=((ID×(Bool×Unit))×Unit)
abbrev Me:=((Int×(Bool×Unit))×(aV×Unit))
abbrev Q15:=((StateT×(bg×Unit))×Unit)
abbrev Q16:=((StateT×((List bg)×Unit))×Unit)
abbrev Q17:=(((List (List bg))×Unit)×Unit)
abbrev Xl:=(((List ax)×Unit)×Unit)
abbrev Tf:=((Int×Unit)×(aV×Unit))
abbrev Xm:=((ak×(ab×Unit))×Unit)
abbrev Xn:=(((List ab)×(ab×Unit))×Unit)
abbrev Y3:=((bg×Unit)×(aV×Unit))
abbrev Q23:=((StateT×Unit)×((List (List bg))×Unit))
abbrev Q24:=(((List bg)×(Int×Unit))×Unit)
abbrev Q25:=(((List (List ab))×Unit)×Unit)
abbrev Q26:=((((List ai)×((List aj)×Unit))×Unit)×Unit)
abbrev Q27:=((qP×Unit)×Unit)
abbrev Q28:=((Int×(Int×Unit))×(gR×Unit))
abbrev Q29:=((StateT×((List (List bg))×Unit))×Unit)
abbrev Q30:=((ak×(ID×Unit))×Unit)
abbrev Q31:=(((Option ((Fin 1)×Nat))×Unit)×(aV×Unit))
abbrev Q32:=(Unit×(gR×Unit))
abbrev Q33:=((ab×(ab×Unit))×Unit)
abbrev Q34:=(((List ab)×(ab×(ab×Unit)))×Unit)
abbrev Q35:=((Int×Unit)×((List Int)×Unit))
abbrev Q36:=((StateT×(Int×Unit))×(gR×Unit))
abbrev Q37:=(((List Bool)×Unit)×((List (List bg))×Unit))
abbrev Q38:=((Bool×(Int×Unit))×(((StateT×Unit)×((bg×Unit)×(aV×(((List ai)×((List aj)×Unit))×Unit))))×Unit))
abbrev Q39:=((Int×Unit)×((aV×((ab×Unit)×((ab×Unit)×((ab×Unit)×Unit))))×Unit))
def aod(_:Heap)(id:Nat):List AV→Option (Bool×bD)
 |[]=>some (true,.new (.ref (id+128) 0 0 0) [(id+128,.box 94 (enc k99 (me k99)))])
 |_=>none
def ail(h:Heap)(_:Nat):List AV→Option (Bool×bD)
 |[.ref i 0 0 0]=>match II h i 94 with
  |some cs=>match dr k99 cs with
   |some x=>some (true,.val (.int .i64 x.2.1))
   |none=>none
  |none=>none
 |_=>none
def amj(h:Heap)(id:Nat):List AV→Option (Bool×bD)
 |[.ref i 0 0 0]=>match II h i 94 with
  |some cs=>match dr k99 cs with
   |some x=>some (true,.new (.ref (id+128) 0 0 0) [(id+128,.box 94 (enc k99 x))])
   |none=>none
  |none=>none
 |_=>none
def Tg(_:Heap)(_:Nat):List AV→Option (Bool×bD)
 |[.sl _ k xs]=>some (true,.val (.sl true k xs))
 |[.fK]=>some (true,.val .fK)
 |_=>none
def J3:=ael [] [.val .bool]
def uE:=ael [.val (.sl oP)] [.val (.sl oP)]
def wH:=ael [.val lu,.val (.sl oP)] [.val lu]
def FZ:=ael [.val lu,.val lu] [.val .bool]
def CB:=ael [.val aeN] [.val oP]
def J4:=ael [.val lu,.val oP] []
def J5:aO:={ ps:=[.val lu,.val oP,.ref],bs:=[.box 45 [.own (.row 4 .bool)]],rs:=[] }
def NF:=ael [.val (.sl (.int .u8)),.val (.sl (.int .u8))] [.val .bool]
def mG:=ael [.val lu] [.own (.row 5 (.int .u8))]
def lD:=ael [.val dA] [.own (.row 5 (.int .u8)),.val aeN]
def F2:=ael [.val (.sl (.int .u8)),.val fZ] [.own (.row 5 (.int .u8))]
def J6:=ael [.val dz] [.val fZ]
def J7:=ael [.val dA] [.val aeN]
def F3:=ael [.val (.sl (.int .u8)),.val dz] [.own (.row 5 (.int .u8))]
def J8:=ael [.val dA] [.val aeN]
def uF:=ael [.val (.sl (.int .u8)),.val aeN] [.own (.row 5 (.int .u8))]
def J9:=ael [.val (.sl (.int .u8)),.val .str] [.own (.row 5 (.int .u8))]
def wJ:=ael [.val (.sl fZ)] [.val .bool]
def lE:=ael [.val dA] [.val .bool]
def F4:=ael [.val .str,.val aeN] [.val .bool]
def F5:=ael [.val .str,.val aeN] [.val .bool]
def Y4:aO:={ ps:=[],bs:=[],rs:=[],x:=some Tg }
def z7:=ael [.val (.sl bf),.val (.sl bf)] [.val .bool]
def rU:aO:={ ps:=[.val lu,.own],bs:=[.own (.row 61 oP)],rs:=[.val lu] }
def rW:aO:={ ps:=[.val lu,.own],bs:=[.own (.row 61 oP)],rs:=[.own (.row 4 .bool)] }
def k0:aO:={ ps:=[.val lu,.own,.uP 36 0],bs:=[.own (.row 61 oP)],rs:=[.val lu] }
def k9:aO:={ ps:=[.val lu,.own,.uP 39 1],bs:=[.own (.row 61 oP),.box 45 [.own (.row 4 .bool)]],rs:=[.val lu] }
def Qh:=ael [] []
def Qi:=ael [] []
def Th:=ael [] []
def Qj:=ael [] []
def la:=ael [.val (.sl cX),.uP 135 0] [.own (.row 35 fZ)]
def lf:=ael [.val (.sl dz),.uP 137 0] [.own (.row 35 fZ)]
def rX:=ael [.val dA,.uP 140 0] [.val .bool]
def rY:=ael [.val dA,.uP 142 0] [.val .bool]
def il:aO:={ ps:=[.val (.sl cX),.uP 180 1],bs:=[.box 169 [.val (.fn 140)]],rs:=[.val .bool] }
def im:aO:={ ps:=[.val (.sl cX),.uP 180 1],bs:=[.box 169 [.val (.fn 142)]],rs:=[.val .bool] }
def dB:aO:={ ps:=[.val (.sl cX),.uP 180 1],bs:=[.box 169 [.val (.fn 140)]],rs:=[.val aeN] }
def dC:aO:={ ps:=[.val (.sl cX),.uP 180 1],bs:=[.box 169 [.val (.fn 142)]],rs:=[.val aeN] }
def iq:aO:={ ps:=[.val (.sl dz),.uP 182 1],bs:=[.box 169 [.val (.fn 140)]],rs:=[.val .bool] }
def ir:aO:={ ps:=[.val (.sl dz),.uP 182 1],bs:=[.box 169 [.val (.fn 142)]],rs:=[.val .bool] }
def dD:aO:={ ps:=[.val (.sl dz),.uP 182 1],bs:=[.box 169 [.val (.fn 140)]],rs:=[.val aeN] }
def dE:aO:={ ps:=[.val (.sl dz),.uP 182 1],bs:=[.box 169 [.val (.fn 142)]],rs:=[.val aeN] }
def iu:aO:={ ps:=[.val cX,.ref],bs:=[.box 169 [.val (.fn 140)]],rs:=[.val .bool] }
def iv:aO:={ ps:=[.val cX,.ref],bs:=[.box 169 [.val (.fn 142)]],rs:=[.val .bool] }
def iw:aO:={ ps:=[.val dz,.ref],bs:=[.box 169 [.val (.fn 140)]],rs:=[.val .bool] }
def iy:aO:={ ps:=[.val dz,.ref],bs:=[.box 169 [.val (.fn 142)]],rs:=[.val .bool] }
def F6:=ael [.val (.sl oP),.val (.sl oP)] [.val .bool]
def sgs:List (Nat×aO):=[(66,SV),(14,SW),(87,q9),(104,Co),(174,vj),(123,As),(210,Jx),(131,EB),(170,rR),(175,P5),(37,Cp),(122,Hs),(121,P6),(40,Md),(185,Jy),(186,Jz),(41,JA),(62,EC),(26,SX),(12,ED),(65,JB),(82,SY),(64,JC),(86,P7),(88,Ht),(89,qj),(90,SZ),(91,S4),(92,S5),(93,Au),(94,Cq),(38,Hu),(226,P8),(227,EE),(211,ub),(63,JD),(59,JE),(209,Hv),(83,Hw),(84,JF),(75,P9),(99,JG),(108,S6),(85,Hy),(119,Qa),(120,Qb),(105,JH),(124,Qc),(125,Av),(126,Aw),(127,Ax),(128,Qd),(129,Qe),(130,JI),(132,rf),(237,S7),(109,Qf),(110,Qg),(111,Ay),(149,Hz),(100,rh),(151,EF),(141,wC),(143,HA),(112,JJ),(113,S8),(114,qk),(115,Cr),(116,Az),(117,rS),(118,Ta),(74,Tb),(169,JK),(171,EG),(172,zQ),(173,uC),(176,zR),(177,JM),(243,JN),(72,JO),(152,qQ),(153,YV),(154,YW),(155,zT),(156,Cs),(157,JP),(158,Ct),(96,zU),(159,nG),(160,Cu),(161,Cv),(162,mE),(163,JQ),(164,YX),(165,uD),(166,oQ),(167,qR),(168,JR),(188,FP),(102,zX),(191,YY),(192,JS),(193,zY),(194,wD),(195,mF),(196,oR),(144,JU),(198,FQ),(199,JV),(200,FR),(73,FU),(202,oS),(101,wE),(103,Cw),(135,Cx),(216,wF),(217,JW),(183,JX),(219,FV),(220,YZ),(221,Cz),(222,Y0),(150,CA),(231,JY),(206,JZ),(207,zZ),(208,z5),(223,wG),(225,Y1),(235,FY),(236,ij),(240,z6),(241,J0),(242,rT),(245,J1),(189187,jF),(199197,jG),(74201,kX),(136215,kY),(220218,jH),(232230,jI),(207205,kZ),(500083,J2),(900059,Td),(9,J3),(11,uE),(10,wH),(19,FZ),(34,CB),(36,J4),(39,J5),(46,NF),(17,mG),(42,lD),(43,F2),(137,J6),(67,J7),(68,F3),(95,J8),(49,uF),(97,J9),(133,wJ),(138,lE),(140,F4),(142,F5),(145,Y4),(178,z7),(500013,rU),(500015,rW),(537035,k0),(540035,k9),(2514003,Qh),(3537003,Qi),(900022,Th),(2769003,Qj),(136134,la),(138136,lf),(141139,rX),(143139,rY),(14100181179,il),(14300181179,im),(14100181203,dB),(14300181203,dC),(14100183181,iq),(14300183181,ir),(14100183204,dD),(14300183204,dE),(14100000180,iu),(14300000180,iv),(14100000182,iw),(14300000182,iy),(5,F6)]
def Sg(f:FuncId):Option aO:=(sgs.find? (fun p=>p.1==f)).map (fun p=>p.2)
def eqs:List (Nat×K):=[(35,fZ),(40,bf),(98,SU),(100,ua),(84,dz),(42,cJ)]
def Eqs(t:TypeId):Option K:=(eqs.find? (fun p=>p.1==t)).map (fun p=>p.2)
def CC:Shape:=⟨[(6,.int .i64)],[(.slot 2,20000,.box 27 [.val dA]),(.slot 3,20001,.box 35 [.val fZ]),(.slot 4,20002,.box 38 [.val aeN,.val aeN,.own (.row 40 bf),.val .str,.val aeN])],[],[]⟩
def CD:Shape:=⟨[(6,.int .i64)],[(.slot 2,20000,.box 27 [.val dA]),(.slot 3,20001,.box 40 [.val bf]),(.slot 4,20002,.box 35 [.val fZ])],[],[]⟩
def CE:Shape:=⟨[(6,.int .i64)],[(.slot 2,20000,.box 27 [.val dA]),(.slot 3,20001,.box 35 [.val fZ]),(.slot 4,20002,.box 84 [.val dz])],[],[]⟩
def CF:Shape:=⟨[],[(.slot 2,20000,.box 27 [.val dA]),(.slot 3,20001,.box 40 [.val bf]),(.slot 6,20002,.box 40 [.val bf])],[(5,31000,(.row 40 bf))],[]⟩
def CG:Shape:=⟨[(0,.sl bf),(5,.int .i64)],[(.slot 3,20000,.box 40 [.val bf])],[],[]⟩
def CH:Shape:=⟨[(5,.int .i64)],[(.slot 2,20000,.box 27 [.val dA]),(.slot 3,20001,.box 27 [.val dA])],[],[]⟩
def CI:Shape:=⟨[(9,.int .i64)],[(.slot 2,20000,.box 27 [.val dA]),(.slot 3,20001,.box 27 [.val dA])],[],[]⟩
def CJ:Shape:=⟨[(0,.str),(3,.int .i64)],[],[],[]⟩
def yn:Shape:=⟨[(6,.int .i64)],[(.slot 1,20000,.box 27 [.val dA])],[(3,31000,(.row 36 (.sl bf))),(4,31001,(.row 40 bf)),(5,31002,(.row 40 bf))],[]⟩
def yp:Shape:=⟨[(4,.int .i64),(5,.int .i64)],[],[(3,31000,(.row 3 aeN))],[]⟩
def CL:Shape:=⟨[(7,.int .i64)],[(.slot 2,20000,.box 30 [.val lu]),(.slot 3,20001,.box 61 [.val oP]),(.slot 4,20002,.box 30 [.own (.row 38 cX),.own (.row 84 dz),.own (.row 42 cJ)])],[],[]⟩
def CM:Shape:=⟨[(4,.int .i64)],[(.slot 1,20000,.box 27 [.val dA]),(.slot 2,20001,.box 27 [.own (.row 38 cX),.own (.row 84 dz)]),(.slot 3,20002,.box 27 [.own (.row 38 cX),.own (.row 84 dz)])],[],[]⟩
def CN:Shape:=⟨[(3,.int .i64)],[(.slot 1,20000,.box 61 [.val oP])],[],[]⟩
def CO:Shape:=⟨[(18,.sl ua),(19,.int .i64),(20,.int .i64)],[(.slot 4,20000,.box 30 [.own (.row 38 cX),.own (.row 84 dz),.own (.row 42 cJ)]),(.slot 6,20001,.box 128 [.own (.row 38 cX),.own (.row 84 dz),.val (.sl cJ)])],[],[]⟩
def vl:Shape:=⟨[(6,.bool),(7,.int .i64)],[(.slot 2,20000,.box 27 [.val dA]),(.slot 3,20001,.box 38 [.val cX]),(.slot 4,20002,.box 27 [.own (.row 38 cX),.own (.row 84 dz)]),(.slot 5,20003,.box 27 [.own (.row 38 cX),.val (.sl dz)])],[],[]⟩
def yq:Shape:=⟨[(8,.int .i64)],[(.slot 3,20000,.box 27 [.val dA]),(.slot 4,20001,.box 35 [.val fZ]),(.slot 5,20002,.box 35 [.val fZ]),(.slot 6,20003,.box 27 [.own (.row 38 cX),.own (.row 84 dz)]),(.slot 7,20004,.box 27 [.own (.row 38 cX),.own (.row 84 dz)])],[],[]⟩
def yr:Shape:=⟨[(9,.int .i64)],[(.slot 3,20000,.box 27 [.val dA]),(.slot 5,20001,.box 35 [.val fZ]),(.slot 6,20002,.box 27 [.own (.row 38 cX),.own (.row 84 dz)]),(.slot 7,20003,.box 27 [.own (.row 38 cX),.own (.row 84 dz)])],[],[]⟩
def mH:Shape:=⟨[(12,.sl cJ),(13,.int .i64)],[(.slot 4,20000,.box 30 [.own (.row 38 cX),.own (.row 84 dz),.own (.row 42 cJ)]),(.slot 8,20001,.box 40 [.val bf]),(.slot 9,20002,.box 40 [.val bf]),(.slot 10,20003,.box 40 [.val bf]),(.slot 11,20004,.box 27 [.val dA])],[],[]⟩
def rZ:Shape:=⟨[(7,.bool),(8,.int .i64)],[(.slot 2,20000,.box 30 [.val lu]),(.slot 3,20001,.box 100 [.val ua]),(.slot 4,20002,.box 30 [.own (.row 38 cX),.own (.row 84 dz),.own (.row 42 cJ)]),(.slot 6,20003,.box 27 [.own (.row 38 cX),.own (.row 84 dz)])],[],[]⟩
def r8:Shape:=⟨[(7,.bool),(9,.int .i64)],[(.slot 2,20000,.box 30 [.val lu]),(.slot 3,20001,.box 100 [.val ua]),(.slot 4,20002,.box 30 [.own (.row 38 cX),.own (.row 84 dz),.own (.row 42 cJ)]),(.slot 6,20003,.box 27 [.own (.row 38 cX),.own (.row 84 dz)])],[],[]⟩
def CP:Shape:=⟨[(0,.sl cJ),(1,.sl cJ),(5,.int .i64)],[],[],[]⟩
def CQ:Shape:=⟨[(5,.int .i64)],[(.slot 2,20000,.box 27 [.val dA]),(.slot 3,20001,.box 35 [.val fZ])],[],[]⟩
def CR:Shape:=⟨[(4,.int .i64)],[(.slot 1,20000,.box 27 [.val dA])],[(3,31000,(.row 3 aeN))],[]⟩
def yu:Shape:=⟨[(5,.int .i64)],[(.slot 1,20000,.box 27 [.val dA])],[(3,31000,(.row 3 aeN))],[]⟩
def r9:Shape:=⟨[(5,.int .i64),(6,.int .i64)],[(.slot 1,20000,.box 27 [.val dA])],[(3,31000,(.row 3 aeN))],[]⟩
def CS:Shape:=⟨[(0,.sl bf),(1,.sl bf),(5,.int .i64)],[],[],[]⟩
def CT:Shape:=⟨[(17,.sl ua),(18,.int .i64),(19,.int .i64)],[],[],[]⟩
def CU:Shape:=⟨[(4,.int .i64)],[(.slot 1,20000,.box 27 [.val dA])],[(3,31000,(.row 40 bf))],[]⟩
def CV:Shape:=⟨[(14,.int .i64),(15,.int .i64)],[(.slot 2,20000,.box 27 [.own (.row 38 cX),.own (.row 84 dz)]),(.slot 3,20001,.box 27 [.own (.row 38 cX),.own (.row 84 dz)])],[],[]⟩
def vm:Shape:=⟨[(6,.bool),(7,.int .i64)],[(.slot 2,20000,.box 27 [.val dA]),(.slot 3,20001,.box 84 [.val dz]),(.slot 4,20002,.box 27 [.own (.row 38 cX),.own (.row 84 dz)]),(.slot 5,20003,.box 27 [.val (.sl cX),.own (.row 84 dz)])],[],[]⟩
def lA:Shape:=⟨[(0,.sl cJ),(8,.bool),(9,.int .i64)],[(.slot 3,20000,.box 42 [.val cJ])],[(7,31000,(.row 42 cJ))],[]⟩
def yv:Shape:=⟨[(0,.sl bf),(3,.int .i64),(4,.int .i64)],[],[],[]⟩
def CW:Shape:=⟨[(0,.sl bf),(3,.int .i64),(6,.int .i64)],[],[(5,31000,(.row 40 bf))],[]⟩
def vn:Shape:=⟨[(6,.int .i64),(7,.int .i64)],[(.slot 1,20000,.box 27 [.val dA])],[],[]⟩
def yw:Shape:=⟨[(0,.str)],[],[(6,31000,.og)],[]⟩
def mI:Shape:=⟨[(48,.int .i64),(49,.int .i64)],[(.slot 0,1000,.box 128 [.own (.row 38 cX),.own (.row 84 dz),.val (.sl cJ)]),(.slot 5,20001,.box 30 [.val lu]),(.slot 7,20002,.box 40 [.val bf])],[(9,31000,(.row 40 bf)),(47,31001,(.row 98 SU))],[]⟩
def HC:Shape:=⟨[(5,.int .i64),(32,.int .i64),(33,.int .i64)],[(.slot 0,1000,.box 128 [.own (.row 38 cX),.own (.row 84 dz),.val (.sl cJ)]),(.slot 7,20001,.box 40 [.val bf]),(.slot 8,20002,.box 40 [.val bf])],[(31,31000,(.row 40 bf))],[]⟩
def yx:Shape:=⟨[(5,.int .i64),(47,.int .i64),(48,.int .i64)],[(.slot 0,1000,.box 128 [.own (.row 38 cX),.own (.row 84 dz),.val (.sl cJ)])],[(46,31000,(.row 40 bf))],[]⟩
def nV:Shape:=⟨[(113,.int .i64)],[(.slot 0,1000,.box 128 [.own (.row 38 cX),.own (.row 84 dz),.val (.sl cJ)]),(.slot 8,20001,.box 40 [.val bf]),(.slot 9,20002,.box 40 [.val bf]),(.slot 10,20003,.box 40 [.val bf])],[],[]⟩
def CX:Shape:=⟨[(5,.int .i64)],[(.slot 2,20000,.box 30 [.val lu]),(.slot 3,20001,.box 40 [.val bf]),(.slot 4,20002,.box 40 [.val bf])],[],[]⟩
def yy:Shape:=⟨[(2,.sl bf),(8,.int .i64)],[(.slot 4,20000,.box 35 [.val fZ]),(.slot 6,20001,.box 27 [.own (.row 38 cX),.own (.row 84 dz)]),(.slot 7,20002,.box 27 [.own (.row 38 cX),.own (.row 84 dz)])],[],[]⟩
def tj:Shape:=⟨[(0,.sl bf),(7,.int .i64),(9,.int .i64)],[(.slot 5,20000,.box 40 [.val bf])],[(8,31000,(.row 40 bf))],[]⟩
def wK:Shape:=⟨[(0,.sl cJ),(6,.int .i64)],[(.slot 3,20000,.box 40 [.val bf]),(.slot 4,20001,.box 40 [.val bf])],[],[]⟩
def tn:Shape:=⟨[(0,.sl bf),(6,.int .i64)],[(.slot 3,20000,.box 40 [.val bf])],[(5,31000,(.row 40 bf))],[]⟩
def AZ:Shape:=⟨[(7,.int .i64)],[(.slot 0,1000,.box 128 [.own (.row 38 cX),.own (.row 84 dz),.val (.sl cJ)]),(.slot 3,20001,.box 40 [.val bf]),(.slot 4,20002,.box 40 [.val bf]),(.slot 5,20003,.box 40 [.val bf])],[],[]⟩
def wL:Shape:=⟨[(12,.int .i64),(13,.int .i64)],[(.slot 0,1000,.box 128 [.own (.row 38 cX),.own (.row 84 dz),.val (.sl cJ)]),(.slot 3,20001,.box 40 [.val bf])],[],[]⟩
def wM:Shape:=⟨[(12,.int .i64),(13,.int .i64)],[(.slot 2,20000,.box 30 [.val lu]),(.slot 3,20001,.box 40 [.val bf]),(.slot 4,20002,.box 40 [.val bf])],[],[]⟩
def wN:Shape:=⟨[(0,.sl bf),(7,.int .i64),(8,.int .i64)],[(.slot 3,20000,.box 40 [.val bf])],[],[]⟩
def wO:Shape:=⟨[(0,.sl (.sl bf)),(3,.int .i64),(9,.sl (.sl bf)),(10,.int .i64),(11,.int .i64)],[],[],[]⟩
def wP:Shape:=⟨[(25,.sl (.sl bf)),(26,.int .i64),(27,.int .i64)],[],[(6,31000,(.row 40 bf))],[]⟩
def A1:Shape:=⟨[(3,.int .i64),(6,.sl aeN),(7,.int .i64),(8,.int .i64)],[],[],[]⟩
def wQ:Shape:=⟨[(9,.sl cX),(10,.int .i64),(11,.int .i64)],[(.slot 3,20000,.box 40 [.val bf]),(.slot 4,20001,.box 35 [.val fZ])],[],[]⟩
def wR:Shape:=⟨[(8,.sl dz),(9,.int .i64),(10,.int .i64)],[],[(3,31000,(.row 40 bf))],[]⟩
def tp:Shape:=⟨[(18,.sl cX),(19,.int .i64),(20,.int .i64)],[],[(3,31000,(.row 3 aeN)),(4,31001,(.map bf aeN))],[]⟩
def wS:Shape:=⟨[(5,.int .i64),(18,.sl cX),(19,.int .i64),(20,.int .i64),(30,.sl bf),(31,.int .i64),(32,.int .i64)],[],[(3,31000,(.row 3 aeN)),(4,31001,(.map bf aeN))],[]⟩
def ql:Shape:=⟨[(4,.mp bf aeN)],[],[(3,31000,(.row 3 aeN)),(42,31001,(.iter bf aeN))],[]⟩
def wT:Shape:=⟨[(61,.int .i64),(62,.int .i64)],[],[(3,31000,(.row 3 aeN)),(13,31001,(.row 3 aeN))],[]⟩
def wU:Shape:=⟨[(11,.sl cX),(12,.int .i64),(13,.int .i64)],[(.slot 3,20000,.box 40 [.val bf]),(.slot 4,20001,.box 40 [.val bf])],[],[]⟩
def tu:Shape:=⟨[(1,.int .i64)],[],[(0,1000,(.row 3 aeN))],[]⟩
def iZ:Shape:=⟨[(0,.sl cX),(8,.int .i64),(9,.int .i64),(10,.int .i64)],[(.slot 4,20000,.box 35 [.val fZ])],[],[(2,188,[])]⟩
def jc:Shape:=⟨[(0,.sl dz),(8,.int .i64),(9,.int .i64),(10,.int .i64)],[(.slot 4,20000,.box 35 [.val fZ])],[],[(2,198,[])]⟩
def kf:Shape:=⟨[(0,.sl bf),(6,.int .i64)],[(.slot 4,20000,.box 40 [.val bf]),(.slot 5,20001,.box 40 [.val bf])],[],[(1,73,[])]⟩
def mJ:Shape:=⟨[(11,.sl cX),(12,.int .i64),(13,.int .i64)],[(.slot 5,20000,.box 35 [.val fZ]),(.slot 6,20001,.box 38 [.val aeN,.val aeN,.own (.row 40 bf),.val .str,.val aeN])],[],[(1,135,[])]⟩
def je:Shape:=⟨[(0,.sl cJ),(8,.int .i64),(9,.int .i64),(10,.int .i64)],[(.slot 4,20000,.box 40 [.val bf])],[],[(2,219,[])]⟩
def kg:Shape:=⟨[(0,.sl cJ),(7,.int .i64),(8,.int .i64)],[(.cap 1 0,1000,.box 40 [.val bf])],[],[(1,231,[1000])]⟩
def kh:Shape:=⟨[(5,.int .i64),(8,.sl cX),(9,.int .i64),(10,.int .i64)],[],[],[(1,206,[])]⟩
def qm:Shape:=⟨[(0,.sl oP),(4,.int .i64)],[],[(3,31000,(.row 61 oP))],[]⟩
def wV:Shape:=⟨[(1,.sl oP),(5,.int .i64)],[(.slot 2,20000,.box 30 [.val lu]),(.slot 4,20001,.box 30 [.own (.row 38 cX),.own (.row 84 dz),.own (.row 42 cJ)])],[],[]⟩
def mK:Shape:=⟨[(14,.int .i64),(15,.int .i64)],[(.slot 6,20000,.box 30 [.own (.row 38 cX),.own (.row 84 dz),.own (.row 42 cJ)]),(.slot 7,20001,.box 30 [.val lu])],[(13,1000,(.row 61 oP))],[(2,36,[])]⟩
def mL:Shape:=⟨[(14,.int .i64),(15,.int .i64)],[(.cap 2 0,1020,.box 45 [.own (.row 4 .bool)]),(.slot 6,20001,.box 30 [.own (.row 38 cX),.own (.row 84 dz),.own (.row 42 cJ)]),(.slot 7,20002,.box 30 [.val lu])],[(13,1000,(.row 61 oP))],[(2,39,[1020])]⟩
def wW:Shape:=⟨[(16,.sl cJ),(17,.int .i64),(18,.int .i64)],[],[(3,31000,(.row 5 (.int .u8)))],[]⟩
def tv:Shape:=⟨[(16,.sl cJ),(17,.int .i64),(18,.int .i64),(27,.int .i64),(28,.int .i64)],[],[(3,31000,(.row 5 (.int .u8))),(26,31001,(.row 40 bf))],[]⟩
def tw:Shape:=⟨[(25,.sl dz),(26,.int .i64),(27,.int .i64)],[(.slot 1,20000,.box 27 [.val dA])],[(5,31000,(.map fZ aeN)),(6,31001,(.row 5 (.int .u8)))],[]⟩
def tx:Shape:=⟨[(48,.sl cX),(49,.int .i64),(50,.int .i64)],[],[(5,31000,(.map fZ aeN)),(6,31001,(.row 5 (.int .u8)))],[]⟩
def wX:Shape:=⟨[(48,.sl cX),(49,.int .i64),(50,.int .i64),(71,.sl bf),(72,.int .i64),(73,.int .i64)],[],[(5,31000,(.map fZ aeN)),(6,31001,(.row 5 (.int .u8)))],[]⟩
def qn:Shape:=⟨[(0,.sl (.int .u8)),(1,.int .i64),(14,.int .i64)],[],[(5,31000,(.row 5 (.int .u8)))],[]⟩
def tz:Shape:=⟨[(0,.sl fZ),(5,.sl fZ),(6,.int .i64),(7,.int .i64)],[],[],[]⟩
def wY:Shape:=⟨[(12,.sl dz),(13,.int .i64),(14,.int .i64)],[(.slot 1,20000,.box 27 [.val dA])],[(3,31000,(.map bf .bool))],[]⟩
def tB:Shape:=⟨[(28,.sl cX),(29,.int .i64),(30,.int .i64)],[],[(3,31000,(.map bf .bool))],[]⟩
def tC:Shape:=⟨[(28,.sl cX),(29,.int .i64),(30,.int .i64),(42,.sl bf),(43,.int .i64),(44,.int .i64)],[],[(3,31000,(.map bf .bool))],[]⟩
def wZ:Shape:=⟨[(0,.sl bf),(1,.sl bf),(12,.int .i64),(13,.int .i64)],[],[],[]⟩
def mM:Shape:=⟨[(8,.sl cX),(9,.int .i64),(10,.int .i64)],[],[(5,31000,(.row 35 fZ))],[(1,135,[])]⟩
def mN:Shape:=⟨[(8,.sl dz),(9,.int .i64),(10,.int .i64)],[],[(5,31000,(.row 35 fZ))],[(1,137,[])]⟩
def fL:Shape:=⟨[(0,.sl cX),(7,.int .i64),(8,.int .i64)],[(.cap 1 0,1000,.box 169 [.val (.fn 140)])],[],[(1,180,[1000])]⟩
def fM:Shape:=⟨[(0,.sl cX),(7,.int .i64),(8,.int .i64)],[(.cap 1 0,1000,.box 169 [.val (.fn 142)])],[],[(1,180,[1000])]⟩
def fN:Shape:=⟨[(0,.sl dz),(7,.int .i64),(8,.int .i64)],[(.cap 1 0,1000,.box 169 [.val (.fn 140)])],[],[(1,182,[1000])]⟩
def fO:Shape:=⟨[(0,.sl dz),(7,.int .i64),(8,.int .i64)],[(.cap 1 0,1000,.box 169 [.val (.fn 142)])],[],[(1,182,[1000])]⟩
def ans:List (Nat×List (Nat×Shape)):=[(87,[(2,CC)]),(174,[(2,CD)]),(123,[(2,CE)]),(210,[(6,CF)]),(170,[(2,CG)]),(37,[(4,CH),(12,CI)]),(122,[(2,CJ)]),(185,[(5,yn)]),(186,[(4,yp)]),(41,[(5,CL)]),(12,[(3,CM)]),(65,[(4,CN)]),(64,[(3,CO)]),(88,[(4,vl)]),(89,[(3,yq),(8,yr)]),(93,[(18,mH)]),(94,[(4,rZ),(12,r8)]),(38,[(4,CP)]),(227,[(2,CQ)]),(211,[(3,CR),(7,yu),(10,r9)]),(63,[(4,CS)]),(59,[(4,CT)]),(209,[(3,CU)]),(83,[(3,CV)]),(125,[(4,vm)]),(127,[(7,lA)]),(132,[(3,yv),(9,CW)]),(149,[(3,vn)]),(141,[(2,yw)]),(114,[(8,mI)]),(115,[(6,HC),(11,yx)]),(117,[(19,nV)]),(169,[(2,CX)]),(171,[(3,yy)]),(172,[(6,tj)]),(173,[(2,wK)]),(176,[(3,tn)]),(161,[(3,AZ)]),(162,[(2,wL)]),(193,[(2,wM)]),(195,[(2,wN)]),(202,[(3,wO),(11,wP)]),(101,[(3,A1)]),(216,[(2,wQ)]),(223,[(3,wR)]),(236,[(4,tp),(8,wS),(14,ql),(21,wT)]),(240,[(2,wU)]),(242,[(1,tu)]),(189187,[(3,iZ)]),(199197,[(3,jc)]),(74201,[(5,kf)]),(136215,[(2,mJ)]),(220218,[(3,je)]),(232230,[(2,kg)]),(207205,[(3,kh)]),(11,[(3,qm)]),(10,[(2,wV)]),(537035,[(3,mK)]),(540035,[(3,mL)]),(17,[(3,wW),(6,tv)]),(42,[(7,tw),(14,tx),(19,wX)]),(49,[(4,qn)]),(133,[(2,tz)]),(138,[(3,wY),(9,tB),(14,tC)]),(178,[(4,wZ)]),(136134,[(3,mM)]),(138136,[(3,mN)]),(14100181203,[(2,fL)]),(14300181203,[(2,fM)]),(14100183204,[(2,fN)]),(14300183204,[(2,fO)])]
def An(f:FuncId)(key:Nat):Option Shape:=(ans.find? (fun p=>p.1==f)).bind fun p=>(p.2.find? (fun q=>q.1==key)).map (fun q=>q.2)
abbrev JT(g:aO):=(sh:Shape)→List Item→sh.T→Option g.B
noncomputable def bJ(f:FuncId)(g:aO)(fn:Func)(F:FT)(J:JT g)(x:g.A):Option g.B:=aD Tryz.prog Eqs Sg F fn.ntmps (An f) J (rG Tryz.prog g fn) fuel [.code (fn.body.getD .skip)] (entry g x)
noncomputable def ed(f j:Nat)(g:aO)(fn:Func)(sh:Shape)(F:FT)(J:JT g)(x:sh.T):Option g.B:=aD Tryz.prog Eqs Sg F fn.ntmps (An f) J (rG Tryz.prog g fn) fuel (round (aM Tryz.prog (f%1000) j)) (av sh x)
end Go.Vs
namespace Go.Vs
open Go.Proofs
variable {G:(f:FuncId)→(g:aO)→Option (g.A→Option g.B)}
noncomputable abbrev FX(G:(f:FuncId)→(g:aO)→Option (g.A→Option g.B)):FT:=Fix Tryz.prog Eqs Sg An G
noncomputable abbrev LX(G:(f:FuncId)→(g:aO)→Option (g.A→Option g.B))(f:FuncId)(g:aO)(fn:Func):JT g:=Lp Tryz.prog Eqs Sg An G f g fn
abbrev HG(G:(f:FuncId)→(g:aO)→Option (g.A→Option g.B)):Prop:=∀f g,(f==207 || f==208)=false→G f g=none
theorem aw{f:FuncId}{g:aO}{fn:Func}{x:g.A}{y:g.B}{z:Option g.B}(hG:G f g=none)(e:bJ f g fn (FX G) (LX G f g fn) x=z)(h:z=some y) (hb:body Tryz.prog (f%1000)=some (fn,fn.body.getD .skip):=by kernel_rfl) (hc:(decide (g.ps.length≤fn.ntmps)&&decide (g.bs.length≤8))=true:=by kernel_rfl):FX G f g x=some y:=NC hG hb hc (e.trans h)
theorem au{f j:Nat}{g:aO}{fn:Func}{sh:Shape}{x:sh.T}{y:g.B}{z:Option g.B}(e:ed f j g fn sh (FX G) (LX G f g fn) x=z)(h:z=some y) (hs:(match aM Tryz.prog (f%1000) j with | .inLoop _::_=>true|_=>false)=true:=by kernel_rfl):LX G f g fn sh (aM Tryz.prog (f%1000) j) x=some y:=by
 have h:=e.trans h;unfold ed at h;generalize aM Tryz.prog (f%1000) j=s at hs h ⊢
 split at hs
 ·exact SS h
 ·cases hs
abbrev aaa:=(Int×Unit)
abbrev aac:=(((List ai)×((List aj)×Unit))×(((List ai)×((List aj)×Unit))×Unit))
abbrev aad:=(ab×Unit)
abbrev aal:=(Int×aaa)
abbrev aam:=(ID×Unit)
abbrev aar:=(ak×Unit)
abbrev aas:=((List ab)×Unit)
abbrev aay:=(aad×Unit)
abbrev aaA:=((List Int)×Unit)
abbrev aaD:=(StateT×Unit)
abbrev aaK:=(Unit×Unit)
abbrev aaM:=(aV×Unit)
abbrev aaT:=(aar×Unit)
abbrev aaZ:=(aam×Unit)
abbrev aa1:=(aam×((Int×(Int×((List ab)×(ByteArray×aaa))))×Unit))
abbrev aa9:=((List ab)×aaa)
abbrev abd:=((List ab)×aal)
abbrev abh:=((List ai)×aal)
end Go.Vs
