/- The value semantics is sound -/
import Derived.Test.YtoleelddkocpkaaGreatEngineC
import Derived.Test.YtoleelddkocpkaaGreatProg
import Derived.Scope
import Derived.KernelRfl
set_option linter.unusedSimpArgs false
set_option linter.unusedVariables false
namespace Go.Vs
variable {P:Program} {Eqs:TypeId→Option K} {Sg:FuncId→Option aN} {F:(f:FuncId)→(g:aN)→g.A→Option g.B} {R:Type}
variable {Z Z' Z0:Nat→Prop} {ψ ψ' ψ0:Nat→Value} {h h':Hp} {w w' w0:World} {B0:Nat} {O N:Nat→Prop}
def fS(st:St):(l:List (Nat×Nat×OK))→Mw (l.map (·.2.2))→List Au
 |[],_=>[]
 |(s,id,ok)::r,x=>(id,(qn (look st.tmps s)).head?,.own ok x.1)::fS st r x.2
theorem xc(st:St):∀(l:List (Nat×Nat×OK)) (x:Mw (l.map (·.2.2))),dX (fS st l x)=sx l x
 |[],_=>rfl
 |(s,id,ok)::r,x=>by simp only[fS,sx];rw[←xc st r x.2];rfl
theorem vg(st:St):∀(l:List (Nat×Nat×OK)) (x:Mw (l.map (·.2.2))),(fS st l x).map (·.1)=l.map (·.2.1)
 |[],_=>rfl
 |(s,id,ok)::r,x=>by simp only[fS,List.map_cons];rw[vg st r x.2]
theorem AF(st:St):∀(l:List (Nat×Nat×OK)) (x:Mw (l.map (·.2.2))),(fS st l x).filterMap (·.2.1)=l.flatMap fun p=>qn (look st.tmps p.1)
 |[],_=>rfl
 |(s,id,ok)::r,x=>by simp only[fS,List.flatMap_cons];rw[eu,AF st r x.2];simp only[];rw[yS]
theorem sK{st:St}{s id:Nat}{ok:OK}{r:List (Nat×Nat×OK)}{x:Mw (((s,id,ok)::r).map (·.2.2))}(hd:qq st ((s,id,ok)::r)=some x):eQ st.heap ok (look st.tmps s)=some x.1∧qq st r=some x.2:=by
 have e:qq st ((s,id,ok)::r)=(match eQ st.heap ok (look st.tmps s),qq st r with
  |some x,some y=>some ((x,y):ok.T×Mw (r.map (·.2.2)))
  |_,_=>none):=rfl
 grind
theorem C6{hd:Hp}{st:St}:∀(l:List (Nat×Nat×OK)) (x:Mw (l.map (·.2.2))),qq st l=some x→(∀s∈(l.flatMap fun p=>qn (look st.tmps p.1)),hd s=st.heap.get s) → ∀e∈fS st l x,wW Z ψ hd w h' ψ' e
 |[],_,_,_,e,he=>by simp[fS]at he
 |(s,id,ok)::r,x,hx,hk,e,he=>by
  obtain⟨h1,h2⟩:=sK hx;simp only[List.flatMap_cons]at hk;simp only[fS]at he;rcases abz.1 he with rfl|he
  ·exact Om h1 fun s hs=>hk s (abG _ hs)
  ·exact C6 r x.2 h2 (fun s hs=>hk s (abA _ hs)) e he
theorem J9{st:St}{s:Nat}{k:K}{r:List (Nat×K)}{x:Js (((s,k)::r).map (·.2))}(hd:vE st ((s,k)::r)=some x):hY k st.heap (look st.tmps s)=some x.1∧vE st r=some x.2:=by
 have e:vE st ((s,k)::r)=(match hY k st.heap (look st.tmps s),vE st r with
  |some x,some y=>some ((x,y):k.T×Js (r.map (·.2)))
  |_,_=>none):=rfl
 grind
theorem fq{T:List (Nat×AV)}{n:Nat}{a:Act}(jN:∀p∈T,az Z ψ h w p.2 (a.tmps.getD p.1 undef))(hs:a.tmps.size=n)(hd:a.defers=[]):cT Z ψ h w n (look T) a:=by
 refine⟨fun d=>?_,hs,hd⟩
 induction T with
 |nil=>simp only[look,az]
 |cons p r ih =>
  grind [look,List.mem_cons_self,List.mem_cons_of_mem]
section
variable {st:St} {n:Nat} {a:Act}
theorem xd(g:Good Z ψ st.heap.get w B0 O)(t:cT Z ψ st.heap.get w n (look st.tmps) a)(hz:∀b,Z b→Z' b):∀(l:List (Nat×K)) (x:Js (l.map (·.2))),vE st l=some x →(∀id b,AV.bK id∈(l.flatMap fun p=>(look st.tmps p.1).cells)→st.heap.get id≠none→ob (ψ id)=some b→Z' b)→∀p∈sw l x,az Z' ψ' h' w p.2 (a.tmps.getD p.1 undef)
 |[],_,_,_,p,hp=>by simp[sw]at hp
 |(s,k)::r,x,hx,hf,p,hp=>by
  obtain⟨h1,h2⟩:=J9 hx;simp only[List.flatMap_cons]at hf;simp only[sw]at hp;rcases abz.1 hp with rfl|hp
  ·exact tJ g hz (fun id b bL=>hf id b (abG _ bL)) h1 (t.rep s)
  ·exact xd g t hz r x.2 h2 (fun id b bL=>hf id b (abA _ bL)) p hp
theorem vh(t:cT Z ψ st.heap.get w n (look st.tmps) a):∀(l:List (Src×Nat×BK)) (ids:List Nat),HI st l=some ids→(∀i∈ids,st.heap.get i≠none) →(∀p∈ids.zip (l.map (·.2.1)),h' p.2≠none→ψ' p.2=ψ p.1)→∀p∈ku l,az Z' ψ' h' w p.2 (a.tmps.getD p.1 undef)
 |[],_,_,_,_,p,hp=>by simp[ku]at hp
 |(src,oZ,b)::r,ids,hx,hi,kd,p,hp=>by
  simp only[HI]at hx
  split at hx
  ·rename_i i is h1 h2
   cases hx
   simp only[List.map_cons,List.zip_cons_cons]at kd;have ih:=vh t r is h2 (fun j hj=>hi j (abt _ hj)) (fun p hp=>kd p (abt _ hp)) p
   cases src with
   |slot s =>
    simp only[ku]at hp;rcases abz.1 hp with rfl|hp
    ·simp only[Zz]at h1;obtain⟨sz,h3⟩:=qC h1;have h4:=t.rep s
     grind [BF,List.mem_cons_self]
    ·exact ih hp
   |cap s j=>grind [ku]
  ·cases hx
theorem Ka{hh:Heap}{ids:List (Nat×Nat)}(hi:∀p∈ids,hh.get p.1≠none)(kd:∀p∈ids,h' p.2≠none→ψ' p.2=ψ p.1):∀(cap:List AV) (is HJ:List Nat) (vs:List Value),kq cap=some is → is.map (fun i=>(ids.find? (·.1==i)).map (·.2))=HJ.map some→au Z ψ hh.get w cap vs→au Z' ψ' h' w (HJ.map fun i=>.ref i 0 0 0) vs
 |[],is,HJ,vs,h1,h2,hr=>by simp_all [kq,List.map_nil,au]
 |v::cap,is,HJ,vs,h1,h2,hr=>by
  simp only[kq]at h1
  split at h1
  ·rename_i i is' h3 h4
   cases h1
   cases HJ with
   |nil=>simp at h2
   |cons c r =>
    simp only[List.map_cons,List.cons.injEq]at h2;obtain⟨h5,h6⟩:=h2;simp only[List.map_cons,au]at hr ⊢;obtain⟨u,us,rfl,h7,h8⟩:=hr;obtain⟨sz,rfl⟩:=qC h3
    cases hf:ids.find? (·.1==i) with
    |none=>simp_all
    |some p =>
     rw[hf]at h5;have hm:=ade hf;have he:=adu hf;simp only[Option.map_some,Option.some.injEq]at h5;have Og:p.1=i:=by simpa using he
     refine⟨u,us,rfl,BF h7 (by grind) (fun hn=>?_),Ka hi kd cap is' r us h4 h6 h8⟩
     grind
  ·cases h1
theorem AG(t:cT Z ψ st.heap.get w n (look st.tmps) a){ids:List (Nat×Nat)}(hi:∀p∈ids,st.heap.get p.1≠none)(kd:∀p∈ids,h' p.2≠none→ψ' p.2=ψ p.1):∀(l:List (Nat×FuncId×List Nat)),Oe st ids l=true → ∀p∈By l,az Z' ψ' h' w p.2 (a.tmps.getD p.1 undef)
 |[],_,p,hp=>by simp[By]at hp
 |(s,f,HJ)::r,hx,p,hp=>by
  simp only[Oe,Bool.and_eq_true]at hx;simp only[By,List.map_cons]at hp;rcases abz.1 hp with rfl|hp
  ·have h1:=hx.1
   split at h1
   ·rename_i f' cap hl;simp only[Bool.and_eq_true,decide_eq_true_eq]at h1;obtain⟨rfl,h2⟩:=h1
    split at h2
    ·rename_i is hri;have h4:=t.rep s;rw[hl]at h4;simp only[az]at h4 ⊢;obtain⟨vs,h5,h6⟩:=h4;exact⟨vs,h5,Ka hi kd cap is HJ _ hri (of_decide_eq_true h2) h6⟩
    ·cases h2
   ·cases h1
  ·exact AG t hi kd r hx.2 p hp
theorem xe(t:cT Z ψ st.heap.get w n (look st.tmps) a):∀(l:List (Nat×Nat×OK)) (x:Mw (l.map (·.2.2))),qq st l=some x→(∀e∈fS st l x,h' e.1≠none→ψ' e.1=kA ψ e.2.1) → ∀p∈(l.map fun p=>(p.1,AV.bK p.2.1)),az Z' ψ' h' w p.2 (a.tmps.getD p.1 undef)
 |[],_,_,_,p,hp=>by simp at hp
 |(s,id,ok)::r,x,hx,kd,p,hp=>by
  obtain⟨h1,h2⟩:=sK hx;simp only[fS]at kd;simp only[List.map_cons]at hp;rcases abz.1 hp with rfl|hp
  ·exact HT h1 (t.rep s) (kd _ abV)
  ·exact xe t r x.2 h2 (fun e he=>kd e (abt _ he)) p hp
end
theorem xf{st:St}{m:Nat}:∀(l:List (Nat×Nat×OK)) (x:Mw (l.map (·.2.2))),o5 st m l=true→∃o,(m,some m,o)∈fS st l x
 |[],_,h=>by cases h
 |(s,id,ok)::r,x,h=>by
  simp only[o5,Bool.or_eq_true,Bool.and_eq_true,beq_iff_eq]at h;rcases h with⟨rfl,h⟩|h
  ·grind [id,fS,qn,List.head?_cons,List.mem_cons_self]
  ·obtain⟨o,ho⟩:=xf r x.2 h;exact⟨o,abt _ ho⟩
theorem vj{st:St}{m:Nat}:∀(l:List (Nat×Nat×OK)) (x:Mw (l.map (·.2.2))),qq st l=some x→o5 st m l=true→st.heap.get m≠none
 |[],_,_,h=>by cases h
 |(s,id,ok)::r,x,hx,h=>by
  obtain⟨h1,h2⟩:=sK hx;simp only[o5,Bool.or_eq_true,Bool.and_eq_true,beq_iff_eq]at h;rcases h with⟨rfl,h⟩|h
  ·split at h
   ·rename_i i hl;have hi:i=id:=by simpa using h
    subst hi;rw[hl]at h1;simp only[eQ]at h1
    split at h1
    ·rename_i hg;rw[hg];simp
    ·cases h1
   ·cases h
  ·exact vj r x.2 h2 h
theorem Oy{lQ:List AV}{hh:Heap}{b:Nat}(hb:rX Z ψ hh.get lQ b):Z b∨Own ψ hh.get b:=hb.imp (fun h=>h) fun⟨i,_,h2,h3⟩=>⟨i,h2,h3⟩
theorem gV{sh:Shape}{st:St}{x:sh.T}{n:Nat}{a:Act}(hx:cJ sh st=some x)(k:Ok Z0 w0 O ψ0 Z ψ st.heap.get w)(t:cT Z ψ st.heap.get w n (look st.tmps) a) :
  ∃Z' ψ',Ok Z0 w0 O ψ0 Z' ψ' (aw sh x).heap.get w∧cT Z' ψ' (aw sh x).heap.get w n (look (aw sh x).tmps) a:=by
 unfold cJ at hx
 split at hx
 ·cases hx
 rename_i ids yJ
 split at hx
 ·rename_i xv xb xr hv hb hr Fb
  cases hx
  simp only[Bool.and_eq_true]at Fb;obtain⟨Kb,HY,ajS,aqi⟩:=Fb;obtain⟨hlen,Gs⟩:=jQ _ _ _ hb;have ZR:(sh.boxes.map (·.2.1)).length=sh.bs.length:=by simp[Shape.bs]
  let L:List Au:=cz sh.bs st.heap ids (sh.boxes.map (·.2.1)) 9000 xb++fS st sh.rows xr
  have eH:dX L=(aw sh (xv,xb,xr)).heap:=by show dX (_++_)=_;rw[nW,jP _ _ _ _ _ _ hb ZR,xc];rfl
  have eN:L.map (·.1)=tC sh:=by show(_++_:List Au).map _=_;rw[List.map_append,iw _ _ _ _ _ _ hb ZR,vg];rfl
  have eS:L.filterMap (·.2.1)=Jw st sh ids:=by show(_++_:List Au).filterMap _=_;rw[List.filterMap_append,lh _ _ _ _ _ _ hb ZR,AF];rfl
  have hn:cf (L.map (·.1))=true:=by simp_all
  have kd:=BE (ψ:=ψ) hn;have hz:∀b,Z b→rX Z ψ st.heap.get (Bx st sh ids) b:=fun b hb=>.inl hb;have Jl:=(tP Kb).2 st.heap;have g':Good (rX Z ψ st.heap.get (Bx st sh ids)) (fm ψ L) (dX L).get w w0.heap.size O:=by
   refine yT k.dA Kb hn eS fun e he=>?_;rcases abX.1 he with he|he
   ·exact mO k.dA hz sh.bs ids _ 9000 xb hb (fun id b bL h1 h2=>.inr ⟨id,abA _ bL,h1,h2⟩) (fun s hs=>Jl s (abG _ hs)) (fun e he=>kd e (abG _ he)) e he
   ·exact C6 sh.rows xr hr (fun s hs=>Jl s (abA _ hs)) e he
  have abv:∀p∈ids.zip (sh.boxes.map (·.2.1)),(dX L).get p.2≠none→fm ψ L p.2=ψ p.1:=fun p hp bz=>by obtain⟨o,ho⟩:=lj sh.bs ids (sh.boxes.map (·.2.1)) 9000 xb (hh:=st.heap) hlen p hp;exact kd (p.2,some p.1,o) (abG _ ho) bz
  have Ji:∀p∈ids.zip (sh.boxes.map (·.2.1)),st.heap.get p.1≠none:=fun p hp=>Gs _ (List.of_mem_zip hp).1;refine⟨rX Z ψ st.heap.get (Bx st sh ids),fm ψ L,?_,?_⟩
  ·rw[←eH];refine⟨g',fun b hb=>.inl (k.gy b hb),fun b hb=>?_,k.os,k.tape,k.output,k.size,k.block,fun i hi bz=>?_⟩
   ·rcases Oy hb with h1|⟨id,h1,h2⟩
    ·exact k.fb b h1
    ·exact .inr (k.dA.live id b h1 h2).2.symm
   ·obtain⟨o,ho⟩:=abK.1 bz;obtain⟨s,hm⟩:=pj ho;have jo:i∈tC sh:=by grind
    have h1:=adb.1 ajS i jo;simp only[Bool.or_eq_true,decide_eq_true_eq]at h1;rcases h1 with(h1|h1)|h1
    ·omega
    ·obtain⟨p,hp,he⟩:=List.any_eq_true.1 h1;simp only[Bool.and_eq_true,beq_iff_eq]at he;have h2:=abv p hp (by simp_all);rw[he.1,he.2]at h2;rw[h2];exact k.fix i hi (by grind)
    ·obtain⟨o',rY⟩:=xf sh.rows xr h1;have h2:fm ψ L i=ψ i:=kd (i,some i,o') (abA _ rY) bz;rw[h2];exact k.fix i hi (vj sh.rows xr hr h1)
  ·rw[←eH];refine fq (fun p hp=>?_) t.size t.defers;simp only[aw]at hp;rcases abX.1 hp with hp|hp
   ·exact xd k.dA t hz sh.Bf xv hv (fun id b bL h1 h2=>.inr ⟨id,abG _ bL,h1,h2⟩) p hp
   ·rcases abX.1 hp with hp|hp
    ·grind [vh]
    ·rcases abX.1 hp with hp|hp
     ·grind [AG]
     ·exact xe t sh.rows xr hr (fun e he=>kd e (abA _ he)) p hp
 ·cases hx
end Go.Vs
namespace Go.Vs
variable {P:Program} {Eqs:TypeId→Option K} {Sg:FuncId→Option aN} {F:(f:FuncId)→(g:aN)→g.A→Option g.B} {R:Type}
variable {Z Z' Z0:Nat→Prop} {ψ ψ' ψ0:Nat→Value} {h h':Hp} {w w' w0:World} {B0:Nat} {O N:Nat→Prop}
def Reach(P:Program)(b:Frame)(cs:List Frame)(vS:Act→World→Prop)(m:Machine):Prop:=∃a' w' todo,vS a' w'∧Steps P m (lone { b.at a' todo with mode:=.returning } cs w')
theorem Reach.head{b:Frame}{cs:List Frame}{vS:Act→World→Prop}{m m':Machine}(h:step P m=.next m')(r:Reach P b cs vS m'):Reach P b cs vS m:=by obtain⟨a,w,todo,h1,h2⟩:=r;exact⟨a,w,todo,h1,.head h h2⟩
theorem Reach.steps{b:Frame}{cs:List Frame}{vS:Act→World→Prop}{m m':Machine}(h:Steps P m m')(r:Reach P b cs vS m'):Reach P b cs vS m:=by obtain⟨a,w,todo,h1,h2⟩:=r;exact⟨a,w,todo,h1,h.trans h2⟩
mutual
theorem Kc{p:Nat→Prop}(hp:∀i,p i):∀v:AV,aJ p v
 |.ref id _ _ _=>by simp only[aJ];exact hp id
 |.bK id=>by simp only[aJ];exact hp id
 |.fn _ cap=>by simp only[aJ];exact tV hp cap
 |.agg cs=>by simp only[aJ];exact tV hp cs
 |.oz vs=>by simp only[aJ];exact tV hp vs
 |.no=>by simp only[aJ]
 |.bool _=>by simp only[aJ]
 |.int _ _=>by simp only[aJ]
 |.str _=>by simp only[aJ]
 |.l8=>by simp only[aJ]
 |.fW=>by simp only[aJ]
 |.fp _ _ _=>by simp only[aJ]
 |.sl _ _ _=>by simp only[aJ]
 |.mp _ _ _=>by simp only[aJ]
theorem tV{p:Nat→Prop}(hp:∀i,p i):∀l:List AV,aC p l
 |[]=>by simp only[aC]
 |v::r=>by simp only[aC];exact⟨Kc hp v,tV hp r⟩
end
theorem Yd(s:Nat){n:Nat}{a:Act}{st:St}(k:Ok Z0 w0 O ψ0 Z ψ st.heap.get w)(t:cT Z ψ st.heap.get w n (look st.tmps) a):∃Z',Ok Z0 w0 O ψ0 Z' ψ (SU s st).heap.get w∧cT Z' ψ (SU s st).heap.get w n (look (SU s st).tmps) a:=by
 unfold SU
 split
 ·rename_i m hl
  split
  ·rename_i ty kk xs hg;have g:=k.dA;obtain⟨vs,QZ,yQ⟩:=g.row m (.row ty kk) xs hg;have hs:∀i o,(st.heap.del m).get i=some o→st.heap.get i=some o:=fun i o hi=>by simp_all [tH,dV]
   have gg:=g.freeze (Z':=fun b=>Z b∨ob (ψ m)=some b) (h':=(st.heap.del m).get) hs (fun b hb=>.inl hb) (fun b hb=>hb.imp (fun h=>h) (fun hb=>⟨m,by rw[hg];simp,by rw[tH,bf],hb⟩));have n1:Next Z ψ st.heap.get w w0.heap.size O (fun _=>False) (fun b=>Z b∨ob (ψ m)=some b) ψ (st.heap.del m).get w:=⟨fun b hb=>.inl hb,fun b hb=>hb.imp (fun h=>h) (fun hb=>.inl ⟨m,by rw[hg];simp,hb⟩),cO.refl _ _ _,fun i hi=>by obtain⟨o,ho⟩:=abK.1 hi;simp_all,gg⟩;refine⟨_,k.next (fun id h=>h.elim) n1,⟨fun d=>?_,t.size,t.defers⟩⟩;rw[tT _ rfl];have hr:=t.rep d;by_cases hv:look st.tmps d=.bK m
   ·rw[hv]at hr ⊢;simp only[az]at hr;have hu:=hr.2 (by rw[hg];simp);simp only[Be,if_true,az]
    grind [wM]
   ·have hf:Be m (.sl false kk xs) (look st.tmps d)=look st.tmps d:=by
     unfold Be
     grind
    rw[hf];exact n1.rep g (Kc (fun _ h=>h) _) hr
  grind
 grind
theorem TX{n:Nat}{a:Act}(o:Option Shape){st:St}(k:Ok Z0 w0 O ψ0 Z ψ st.heap.get w)(t:cT Z ψ st.heap.get w n (look st.tmps) a):∃Z',Ok Z0 w0 O ψ0 Z' ψ (Jx o st).heap.get w∧cT Z' ψ (Jx o st).heap.get w n (look (Jx o st).tmps) a:=by
 unfold Jx
 split
 ·rename_i sh;generalize sh.rows=l
  induction l generalizing Z st with
  |nil=>grind
  |cons p r ih =>obtain⟨Z1,k1,t1⟩:=Yd p.1 k t;exact ih k1 t1
 grind
theorem sL(V:Env P Eqs Sg F)(hm:P.follows .mixedOrders=true){n:Nat}{ann:Nat→Option Shape}{J:(sh:Shape)→List Item→sh.T→Option R}{ret:St→Option R}{r:R}{b:Frame}{cs:List Frame}{vS:Act→World→Prop} (hJ:∀sh c k x Z ψ a w,J sh (.inLoop c::k) x=some r→Ok Z0 w0 O ψ0 Z ψ (aw sh x).heap.get w→cT Z ψ (aw sh x).heap.get w n (look (aw sh x).tmps) a→Reach P b cs vS (lone (b.at a (.code c::.inLoop c::k)) cs w)) (uO:∀st Z ψ a w,ret st=some r→Ok Z0 w0 O ψ0 Z ψ st.heap.get w→cT Z ψ st.heap.get w n (look st.tmps) a→vS a w) :
  ∀(fu:Nat) (items:List Item) (st:St) (Z:Nat→Prop) (ψ:Nat→Value) (a:Act) (w:World),aF P Eqs Sg F n ann J ret fu items st=some r→Ok Z0 w0 O ψ0 Z ψ st.heap.get w→cT Z ψ st.heap.get w n (look st.tmps) a → Reach P b cs vS (lone (b.at a items) cs w)
 |0,items,st,Z,ψ,a,w,hx,k,t=>by
  grind [aF]
 |fu+1,[],st,Z,ψ,a,w,hx,k,t=>⟨a,w,[],uO st Z ψ a w (by grind [aF]) k t,.one step_end⟩
 |fu+1,it::SD,st,Z,ψ,a,w,hx,k,t=>by
  have ih:=sL V hm (ann:=ann) hJ uO fu;have loop:∀c,(match ann (tD c) with
    |none=>none
    |some sh=>match cJ sh st with
     |some x=>J sh (.inLoop c::SD) x
     |none=>none)=some r→Reach P b cs vS (lone (b.at a (.code c::.inLoop c::SD)) cs w):=fun c hx=>by
   grind [gV]
  cases it with
  |inBlock id=>exact .head step_inBlock (ih SD st Z ψ a w (by grind [aF]) k t)
  |inScope c=>exact .head step_inScope (ih SD st Z ψ a w (by grind [aF]) k t)
  |inLoop c=>exact .head step_inLoop (loop c (by grind [aF]))
  |code c =>
   cases c with
   |skip=>exact .head step_skip (ih SD st Z ψ a w (by grind [aF]) k t)
   |label l=>exact .head step_label (ih SD st Z ψ a w (by grind [aF]) k t)
   |seq x y=>exact .head step_seq (ih _ st Z ψ a w (by grind [aF]) k t)
   |cond c x y =>
    simp only[aF]at hx
    split at hx
    ·rename_i tt ht;have h1:=sJ t c;rw[ht]at h1;simp only[az]at h1
     cases tt with
     |true=>exact .head (step_cond h1) (ih _ st Z ψ a w hx k t)
     |false=>exact .head (step_cond h1) (ih _ st Z ψ a w hx k t)
    ·cases hx
   |scope c=>exact .head step_scope (ih _ st Z ψ a w (by grind [aF]) k t)
   |block id c=>exact .head step_block (ih _ st Z ψ a w (by grind [aF]) k t)
   |loop c =>
    simp only[aF]at hx
    cases fu with
    |zero=>grind [aF]
    |succ fu=>exact .head step_loop (loop c (by grind [aF]))
   |exit id =>
    simp only[aF]at hx
    split at hx
    ·rename_i k' hk;exact .head (step_exit hk) (ih _ st Z ψ a w hx k t)
    ·cases hx
   |ret=>exact⟨a,w,_,uO st Z ψ a w (by grind [aF]) k t,.one step_ret⟩
   |region id ops draw =>simp only[aF]at hx;obtain⟨Zf,k,t⟩:=TX (ann (500000+id)) k t;have hw:=Ia V hm (Q:=fun e a w=>e=.normal∧∃fe Z ψ,aF P Eqs Sg F n ann J ret fu SD fe=some r∧Ok Z0 w0 O ψ0 Z ψ fe.heap.get w∧cT Z ψ fe.heap.get w n (look fe.tmps) a) hx k t (fun fe Z ψ a w h1 h2 h3=>⟨rfl,fe,Z,ψ,h1,h2,h3⟩);obtain⟨e,a',w',⟨rfl,fe,Z',ψ',h1,h2,h3⟩,TA⟩:=hw b SD cs;exact .steps TA (ih SD fe Z' ψ' a' w' h1 h2 h3)
   |_=>grind [aF]
  |_=>grind [aF]
theorem sM{hh:Heap}{n:Nat}{s:List (Nat×AV)}{a:Act}(g:Good Z ψ hh.get w B0 O)(t:cT Z ψ hh.get w n (look s) a):∀(l:List ResultVar) (acc:Array Value) (vs:List AV),Ai P hh s l=some vs → ∃us,(l.foldlM (fun(bs:Array Value) r=>do let y ←(match r with | .tmp t=>pure (a.tmps.getD t undef) | .cell p ty=>do loadVar ty (←asAddr (a.tmps.getD p undef)):Sem Value);pure (bs.push y)) acc:Sem (Array Value)).run P w=.ok (acc++us.toArray) w∧au Z ψ hh.get w vs us
 |[],acc,vs,hx=>by
  simp only[Ai]at hx
  cases hx
  exact⟨[],by simp,by simp only[au]⟩
 |.tmp d::l,acc,vs,hx=>by
  simp only[Ai]at hx
  split at hx
  ·rename_i iX h1
   cases hx
   obtain⟨us,h2,h3⟩:=sM g t l (acc.push (a.tmps.getD d undef)) iX h1;refine⟨a.tmps.getD d undef::us,?_,by simp only[au];exact⟨_,_,rfl,t.rep d,h3⟩⟩;simp only[List.foldlM_cons,Sem.run_bind,Sem.run_pure,Result.andThen_ok];rw[h2];simp
  ·cases hx
 |.cell d ty::l,acc,vs,hx=>by
  simp only[Ai]at hx
  split at hx
  ·rename_i id sz off hd
   split at hx
   ·rename_i bt cs hg
    split at hx
    ·rename_i v iX hv h1
     cases hx
     have h4:=t.rep d;rw[hd]at h4;simp only[az]at h4;obtain⟨ad,h5,h6⟩:=h4;obtain⟨gg,ws,e1,e2,e3,e4⟩:=g.box id bt cs hg;have h7:=h6 (by rw[hg];simp);rw[e1]at h7;simp only[XP,Nat.zero_mul,Nat.zero_add]at h7;subst h7;obtain⟨V,h8,h9⟩:=ky (a:=⟨gg,off,none⟩) (e3.drop off) (fun j u hu=>by rw[cE];simp only[World.cell?,e2];rw[List.getElem?_drop]at hu;simpa using hu) hv;have qg:(loadVar ty ⟨gg,off,none⟩).run P w=.ok V w:=by have:=h8;simpa[Instr.loadAt,Instr.sureAddr] using this
     obtain⟨us,h2,h3⟩:=sM g t l (acc.push V) iX h1;refine⟨V::us,?_,by simp only[au];exact⟨_,_,rfl,h9,h3⟩⟩;have E2:(asAddr (a.tmps.getD d undef)).run P w=.ok ⟨gg,off,none⟩ w:=by rw[h5];rfl
     simp only[List.foldlM_cons,Sem.run_bind,E2,Sem.run_pure,Result.andThen_ok,qg];rw[h2];simp
    ·cases hx
   ·cases hx
  ·cases hx
theorem Kd{fn:Func}{hh:Heap}{n:Nat}{s:List (Nat×AV)}{a:Act}{vs:List AV}(g:Good Z ψ hh.get w B0 O)(t:cT Z ψ hh.get w n (look s) a)(hx:Ai P hh s fn.results.toList=some vs) :
  ∃us v,(results fn a.tmps).run P w=.ok v w∧au Z ψ hh.get w vs us∧v=(if us.length=1 then us.headD undef else .tuple us.toArray):=by
 obtain⟨us,h1,h2⟩:=sM (P:=P) g t fn.results.toList #[] vs hx;refine⟨us,_,?_,h2,rfl⟩;have h3:(fn.results.mapM fun r=>(match r with | .tmp t=>pure (a.tmps.getD t undef) | .cell p ty=>do loadVar ty (←asAddr (a.tmps.getD p undef)):Sem Value)).run P w=.ok us.toArray w:=by simp_all [Array.mapM_eq_foldlM,Array.foldlM_toList]
 have h4:results fn a.tmps=(do
   let vs ←fn.results.mapM fun r=>(match r with | .tmp t=>pure (a.tmps.getD t undef) | .cell p ty=>do loadVar ty (←asAddr (a.tmps.getD p undef)):Sem Value)
   pure (if h:vs.size=1 then vs[0] else .tuple vs)):=rfl
 rw[h4,Sem.run_bind,h3,Result.andThen_ok,Sem.run_pure];congr 1;by_cases h5:us.length=1
 ·obtain⟨u,rfl⟩:=List.length_eq_one_iff.1 h5;simp
 simp_all
theorem gW:∀(ps:List PK) (ids:List Nat) (s:Nat) (x:Js (lT ps)) (us:List Value),au Z ψ h w ((aV ps ids s x).map (·.2)) us→us.length=ps.length∧∀p∈aV ps ids s x,∃j u,p.1=s+j∧us[j]? = some u∧az Z ψ h w p.2 u
 |[],ids,s,x,us,hr=>by simp only[aV,List.map_nil,au]at hr;subst hr;exact⟨rfl,fun p hp=>by simp[aV]at hp⟩
 |.val k::ps,ids,s,x,us,hr=>by
  simp only[aV,List.map_cons,au]at hr;obtain⟨u,jk,rfl,h1,h2⟩:=hr;obtain⟨h3,h4⟩:=gW ps ids (s+1) x.2 jk h2;refine⟨by simp[h3],fun p hp=>?_⟩;simp only[aV]at hp;rcases abz.1 hp with rfl|hp
  ·exact⟨0,u,rfl,rfl,h1⟩
  ·obtain⟨j,u',h5,h6,h7⟩:=h4 p hp;exact⟨j+1,u',by omega,by simpa using h6,h7⟩
 |.ref::ps,i::ids,s,x,us,hr=>by
  simp only[aV,List.map_cons,au]at hr;obtain⟨u,jk,rfl,h1,h2⟩:=hr;obtain⟨h3,h4⟩:=gW ps ids (s+1) x jk h2;refine⟨by simp[h3],fun p hp=>?_⟩;simp only[aV]at hp;rcases abz.1 hp with rfl|hp
  ·exact⟨0,u,rfl,rfl,h1⟩
  ·obtain⟨j,u',h5,h6,h7⟩:=h4 p hp;exact⟨j+1,u',by omega,by simpa using h6,h7⟩
 |.ref::ps,[],s,x,us,hr=>by
  simp only[aV,List.map_cons,au]at hr;obtain⟨u,jk,rfl,h1,h2⟩:=hr;obtain⟨h3,h4⟩:=gW ps [] (s+1) x jk h2;refine⟨by simp[h3],fun p hp=>?_⟩;simp only[aV]at hp;rcases abz.1 hp with rfl|hp
  ·exact⟨0,u,rfl,rfl,h1⟩
  ·obtain⟨j,u',h5,h6,h7⟩:=h4 p hp;exact⟨j+1,u',by omega,by simpa using h6,h7⟩
 |.own::ps,i::ids,s,x,us,hr=>by
  simp only[aV,List.map_cons,au]at hr;obtain⟨u,jk,rfl,h1,h2⟩:=hr;obtain⟨h3,h4⟩:=gW ps ids (s+1) x jk h2;refine⟨by simp[h3],fun p hp=>?_⟩;simp only[aV]at hp;rcases abz.1 hp with rfl|hp
  ·exact⟨0,u,rfl,rfl,h1⟩
  ·obtain⟨j,u',h5,h6,h7⟩:=h4 p hp;exact⟨j+1,u',by omega,by simpa using h6,h7⟩
 |.own::ps,[],s,x,us,hr=>by
  simp only[aV,List.map_cons,au]at hr;obtain⟨u,jk,rfl,h1,h2⟩:=hr;obtain⟨h3,h4⟩:=gW ps [] (s+1) x jk h2;refine⟨by simp[h3],fun p hp=>?_⟩;simp only[aV]at hp;rcases abz.1 hp with rfl|hp
  ·exact⟨0,u,rfl,rfl,h1⟩
  ·obtain⟨j,u',h5,h6,h7⟩:=h4 p hp;exact⟨j+1,u',by omega,by simpa using h6,h7⟩
 |.wz f m::ps,ids,s,x,us,hr=>by
  simp only[aV,List.map_cons,au]at hr;obtain⟨u,jk,rfl,h1,h2⟩:=hr;obtain⟨h3,h4⟩:=gW ps (ids.drop m) (s+1) x jk h2;refine⟨by simp[h3],fun p hp=>?_⟩;simp only[aV]at hp;rcases abz.1 hp with rfl|hp
  ·exact⟨0,u,rfl,rfl,h1⟩
  ·obtain⟨j,u',h5,h6,h7⟩:=h4 p hp;exact⟨j+1,u',by omega,by simpa using h6,h7⟩
 |.agg m::ps,ids,s,x,us,hr=>by
  simp only[aV,List.map_cons,au]at hr;obtain⟨u,jk,rfl,h1,h2⟩:=hr;obtain⟨h3,h4⟩:=gW ps (ids.drop m) (s+1) x jk h2;refine⟨by simp[h3],fun p hp=>?_⟩;simp only[aV]at hp;rcases abz.1 hp with rfl|hp
  ·exact⟨0,u,rfl,rfl,h1⟩
  ·obtain⟨j,u',h5,h6,h7⟩:=h4 p hp;exact⟨j+1,u',by omega,by simpa using h6,h7⟩
section
variable {An:FuncId→Nat→Option Shape}
theorem C7(V:Env P Eqs Sg F)(hm:P.follows .mixedOrders=true){f:FuncId}{g:aN}{fn:Func}{y:g.B}{b:Frame}{cs:List Frame}{vS:Act→World→Prop} (uO:∀st Z ψ a w,sy P g fn st=some y→Ok Z0 w0 O ψ0 Z ψ st.heap.get w→cT Z ψ st.heap.get w fn.ntmps (look st.tmps) a→vS a w) :
  ∀(n:Nat) (sh:Shape) (c:Code) (k:List Item) (x:sh.T) (Z:Nat→Prop) (ψ:Nat→Value) (a:Act) (w:World),nH P Eqs Sg An F f g fn n sh (.inLoop c::k) x=some y → Ok Z0 w0 O ψ0 Z ψ (aw sh x).heap.get w→cT Z ψ (aw sh x).heap.get w fn.ntmps (look (aw sh x).tmps) a→Reach P b cs vS (lone (b.at a (.code c::.inLoop c::k)) cs w)
 |0,sh,c,k,x,Z,ψ,a,w,hx,_,_=>by simp only[nH]at hx;cases hx
 |n+1,sh,c,k,x,Z,ψ,a,w,hx,ko,t=>by simp only[nH]at hx;exact sL V hm (fun sh c k x Z ψ a w h1 h2 h3=>C7 V hm uO n sh c k x Z ψ a w h1 h2 h3) uO fuel _ _ Z ψ a w hx ko t
theorem Ib{n i:Nat}(h:i∈aQ n):∃j,j<n∧i=1000+20*j:=by
 unfold aQ at h;obtain⟨j,h1,rfl⟩:=ace.1 h
 grind
theorem TY{α:Type}{l:List α}{a:α}(h:a∈l):(a,a)∈l.zip l:=by
 induction l with
 |nil=>cases h
 |cons b r ih =>
  simp only[List.zip_cons_cons]
  grind
theorem M3(V:Env P Eqs Sg F)(hm:P.follows .mixedOrders=true){f:FuncId}{g:aN}{n:Nat}{x:g.A}{y:g.B}(hx:Mx P Eqs Sg An F f g n x=some y):Gn P f g x y:=by
 intro Z ψ0 w lk hg hr;unfold Mx at hx
 split at hx
 ·cases hx
 rename_i fn c ZS;have hf:P.funcs[f%1000]? = some fn∧fn.body=some c:=by
  unfold body at ZS;obtain⟨fn',h1,h2⟩:=ada.1 ZS;obtain⟨c',h3,h4⟩:=ac9.1 h2
  cases h4
  exact⟨h1,h3⟩
 split at hx
 ·rename_i hle;simp only[Bool.and_eq_true,decide_eq_true_eq]at hle;obtain⟨hlen,abE⟩:=gW g.ps (aQ g.bs.length) 0 x.1 lk hr;intro cs
  let b:Frame:={ (default:Frame) with fn:=f%1000,kind:=.normal }
  let a0:Act:={ tmps:=lk.toArray++Array.replicate (fn.ntmps-lk.toArray.size) undef,defers:=[] }
  have abF:Frame.enter P (f%1000) lk.toArray .normal=b.at a0 [.code c]:=by simp[Frame.enter,Frame.at,hf.1,hf.2,b,a0]
  have ok0:Ok Z w (Own ψ0 (ry g x)) ψ0 Z ψ0 (entry g x).heap.get w :=⟨hg,fun _ h=>h,fun _ h=>.inl h,rfl,rfl,rfl,acb _,fun _ _ _=>rfl,fun _ _ _=>rfl⟩;have tr0:cT Z ψ0 (entry g x).heap.get w fn.ntmps (look (entry g x).tmps) a0:=by
   refine fq (fun p hp=>?_) (by simp[a0];omega) rfl;obtain⟨j,u,h1,h2,h3⟩:=abE p hp;rw[h1];have hj:j<lk.length:=(abu.1 h2).1;have:a0.tmps.getD (0+j) undef=u:=by rw[Nat.zero_add,Array.getD_eq_getD_getElem?];simp only[a0];rw[Array.getElem?_append_left (by simpa using hj)];simp[h2]
   rw[this];exact h3
  have uO:∀st Z1 oR a w1,sy P g fn st=some y→Ok Z w (Own ψ0 (ry g x)) ψ0 Z1 oR st.heap.get w1→cT Z1 oR st.heap.get w1 fn.ntmps (look st.tmps) a → a.defers=[]∧∃v,(results fn a.tmps).run P w1=.ok v w1∧∃v' Z' ψ',Ending.returned v=.returned v'∧(∀b,Z b→Z' b)∧(∀b,Z' b→Z b∨Own ψ0 (ry g x) b∨w.heap.size≤b)∧cO ψ0 (ry g x) w w1 ∧ Good Z' ψ' (ll g y).get w1 w.heap.size (Own ψ0 (ry g x))∧(∀i∈aQ g.bs.length,ψ' i=ψ0 i)∧az Z' ψ' (ll g y).get w1 (fD (aX g.rs (aQ g.bs.length) 2000 3000 y.1)) v':=by
   intro st Z1 oR a w1 uO k t;refine⟨t.defers,?_⟩;unfold sy at uO
   split at uO
   ·cases uO
   rename_i vs oQ
   split at uO
   ·rename_i y1 y2 hd hb Fb
    cases uO
    simp only[Bool.and_eq_true]at Fb;obtain⟨Kb,HY⟩:=Fb;obtain⟨us,v,h1,h2,h3⟩:=Kd (P:=P) k.dA t oQ;have ZR:(aQ g.bs.length).length=g.bs.length:=by simp[aQ]
    let L:List Au:=cz g.bs st.heap (aQ g.bs.length) (aQ g.bs.length) 2000 y2++cH g.rs vs 3000 y1
    have eH:dX L=ll g (y1,y2):=by show dX (_++_)=_;rw[nW,jP _ _ _ _ _ _ hb ZR,g6];rfl
    have eN:L.map (·.1)=si g:=by show(_++_:List Au).map _=_;rw[List.map_append,iw _ _ _ _ _ _ hb ZR,gj];rfl
    have eS:L.filterMap (·.2.1)=de g.bs st.heap (aQ g.bs.length)++ep g.rs vs:=by show(_++_:List Au).filterMap _=_;rw[List.filterMap_append,lh _ _ _ _ _ _ hb ZR,jA _ _ _ _ hd]
    have hn:cf (L.map (·.1))=true:=by rw[eN];exact HY
    have kd:=BE (ψ:=oR) hn;have hz:∀b,Z1 b→rX Z1 oR st.heap.get (gN g.rs vs++gM g.bs st.heap (aQ g.bs.length)) b:=fun b hb=>.inl hb;have Jl:=(tP Kb).2 st.heap;have g':Good (rX Z1 oR st.heap.get (gN g.rs vs++gM g.bs st.heap (aQ g.bs.length))) (fm oR L) (dX L).get w1 w.heap.size (Own ψ0 (ry g x)):=by
     refine yT k.dA Kb hn eS fun e he=>?_;rcases abX.1 he with he|he
     ·exact mO k.dA hz g.bs _ _ 2000 y2 hb (fun id b bL h1 h2=>.inr ⟨id,abA _ bL,h1,h2⟩) (fun s hs=>Jl s (abG _ hs)) (fun e he=>kd e (abG _ he)) e he
     ·exact kC g.rs vs 3000 y1 hd (fun s hs=>Jl s (abA _ hs)) e he
    obtain⟨GB,Gs⟩:=jQ _ _ _ hb;have Oz:=tR (ids2:=aQ g.bs.length) (Z':=rX Z1 oR st.heap.get (gN g.rs vs++gM g.bs st.heap (aQ g.bs.length))) (ψ':=fm oR L) (h':=(dX L).get) k.dA hz hb ZR (fun e he=>kd e (abG _ he)) g.rs vs 3000 y1 us hd (fun id b bL h1 h2=>.inr ⟨id,abG _ bL,h1,h2⟩) (fun e he=>kd e (abA _ he)) h2;refine⟨v,h1,v,rX Z1 oR st.heap.get (gN g.rs vs++gM g.bs st.heap (aQ g.bs.length)),fm oR L,rfl,fun b hb=>.inl (k.gy b hb),fun b hb=>?_,⟨k.os,k.tape,k.output,k.size,k.block⟩,by rw[←eH];exact g',fun i hi=>?_,?_⟩
    ·rcases Oy hb with h4|⟨id,h4,h5⟩
     ·exact k.fb b h4
     ·exact .inr (k.dA.live id b h4 h5).2.symm
    ·obtain⟨o,ho⟩:=lj (hh:=st.heap) g.bs (aQ g.bs.length) (aQ g.bs.length) 2000 y2 GB (i,i) (TY hi);rw[jz hn (List.mem_append_left _ ho)];obtain⟨j,h4,h5⟩:=Ib hi;exact k.fix i (by omega) (Gs i hi)
    ·rw[←eH];have SY:us.length=(aX g.rs (aQ g.bs.length) 2000 3000 y1).length:=Oz.length.symm;rw[h3]
     match hE:aX g.rs (aQ g.bs.length) 2000 3000 y1,us,Oz,SY with
     |[],[],Oz,_=>simp only[fD];simp only[az];exact⟨#[],rfl,by simpa using Oz⟩
     |[e1],[u],Oz,_ =>
      simp only[au]at Oz;obtain⟨u',jk,he,h4,_⟩:=Oz
      cases he
      simpa[fD] using h4
     |e1::e2::er,u1::u2::ur,Oz,_ =>simp only[fD,az];exact⟨(u1::u2::ur).toArray,by simp,by simpa using Oz⟩
   ·cases uO
  have reach:=sL V hm (b:=b) (cs:=cs) (fun sh c k x Z ψ a w h1 h2 h3=>C7 V hm uO n sh c k x Z ψ a w h1 h2 h3) uO fuel _ _ Z ψ0 a0 w hx ok0 tr0;obtain⟨a',w',todo,⟨hd,v,xg,hR⟩,hs⟩:=reach;rw[←abF]at hs;exact⟨.returned v,w',_,hR,hs,rfl,rfl,hd,rfl,fn,hf.1,xg⟩
 ·cases hx
end
theorem Ke(hX:∀f g u,Sg f=some g→g.x=some u→gE P (f%1000) u){G:(f:FuncId)→(g:aN)→Option (g.A→Option g.B)}{An:FuncId→Nat→Option Shape}(EW:∀t k,Eqs t=some k→mL P t k)(QI:∀f g,Sg f=some g→jR P (f%1000))(hm:P.follows .mixedOrders=true) (hG:∀f g u x y,Sg f=some g→G f g=some u→u x=some y→Gn P f g x y):∀(m:Nat) f g x y,Sg f=some g→Fn P Eqs Sg An G m f g x=some y→Gn P f g x y
 |0,f,g,x,y,hs,hx=>by
  simp only[Fn]at hx
  split at hx
  ·rename_i u hu;exact hG f g u x y hs hu hx
  ·cases hx
 |m+1,f,g,x,y,hs,hx=>by
  simp only[Fn]at hx
  split at hx
  ·rename_i u hu;exact hG f g u x y hs hu hx
  ·exact M3 ⟨EW,fun f g x y h1 h2=>Ke hX EW QI hm hG m f g x y h1 h2,hX,QI⟩ hm hx
end Go.Vs
namespace Go.Vs
abbrev FT:=(f:FuncId)→(g:aN)→g.A→Option g.B
variable {P:Program} {Eqs:TypeId→Option K} {Sg:FuncId→Option aN} {R:Type}
def wB(p:Nat→Prop):Prop:=∃m,∀m',m≤m'→p m'
theorem wB.now{p:Nat→Prop}(h:∀m,p m):wB p:=⟨0,fun m _=>h m⟩
theorem wB.and{p q r:Nat→Prop}(h:wB p)(k:wB q)(hr:∀m,p m→q m→r m):wB r:=by obtain⟨a,ha⟩:=h;obtain⟨b,hb⟩:=k;exact⟨max a b,fun m hm=>hr m (ha m (by omega)) (hb m (by omega))⟩
theorem wB.imp{p r:Nat→Prop}(h:wB p)(hr:∀m,p m→r m):wB r:=by obtain⟨a,ha⟩:=h;exact⟨a,fun m hm=>hr m (ha m hm)⟩
def To(A:Nat→FT)(L:FT):Prop:=∀f g x y,L f g x=some y→wB fun m=>A m f g x=some y
def ToK{α:Type}(A:Nat→α→Option R)(L:α→Option R):Prop:=∀x y,L x=some y→wB fun m=>A m x=some y
def ToJ(A:Nat→(sh:Shape)→List Item→sh.T→Option R)(L:(sh:Shape)→List Item→sh.T→Option R):Prop:=∀sh k x y,L sh k x=some y→wB fun m=>A m sh k x=some y
theorem TZ(h:Heap)(id:Nat)(f:FuncId)(vs:List AV):(∀F F':FT,jL Sg F h id f vs some=jL Sg F' h id f vs some) ∨ ∃ff g x,(∀F F':FT,F ff g x=F' ff g x→jL Sg F h id f vs some=jL Sg F' h id f vs some)∧∀F:FT,F ff g x=none→jL Sg F h id f vs some=none:=by
 unfold jL
 split
 ·simp_all
 rename_i g hg
 split
 ·simp_all
 split
 ·split
  ·split
   ·rename_i x b hx hb hp;refine .inr ⟨_,g,(x,b),fun F F' e=>by rw[e],fun F e=>by rw[e];rfl⟩
   simp_all
  ·split
   ·rename_i x b hx hb hp;refine .inr ⟨_,g,(x,b),fun F F' e=>by rw[e],fun F e=>by rw[e];rfl⟩
   simp_all
 simp_all
theorem Ye{A:Nat→FT}{L:FT}(hA:To A L){h:Heap}{id:Nat}{f:FuncId}{vs:List AV}{e:bE}(he:jL Sg L h id f vs some=some e):wB fun m=>jL Sg (A m) h id f vs some=some e:=by
 rcases TZ (Sg:=Sg) h id f vs with k|⟨ff,g,x,k1,k2⟩
 ·exact .now fun m=>(k _ _).trans he
 ·cases hy:L ff g x with
  |none=>simp_all
  |some y=>exact(hA _ _ _ _ hy).imp fun m hm=>(k1 (A m) L (hm.trans hy.symm)).trans he
theorem Kf{A:Nat→FT}{L:FT}(hA:To A L){id:Nat}{h:Heap}{s:List (Nat×AV)}{o:Oper}{e:bE}(he:cZ P Eqs Sg L id h s o some=some e):wB fun m=>cZ P Eqs Sg (A m) id h s o some=some e:=by
 obtain⟨dst,op,type,pos,after,guard⟩:=o
 cases op with
 |call c =>
  obtain⟨callee,args,argTypes⟩:=c
  cases callee with
  |value f =>
   grind [cZ,Ye]
  |builtin bi=>cases bi<;>exact .now fun m=>he
  |invoke _ _=>exact .now fun m=>he
 |unOp u _ _=>cases u<;>exact .now fun m=>he
 |makeFunc fn _ _=>cases fn<;>exact .now fun m=>he
 |makeMap _ r=>cases r<;>exact .now fun m=>he
 |next _ b=>cases b<;>exact .now fun m=>he
 |_=>exact .now fun m=>he
theorem wB.all{p:Nat→Nat→Prop}:∀(n:Nat),(∀j,j<n→wB (p j))→wB fun m=>∀j,j<n→p j m
 |0,_=>.now fun m j hj=>absurd hj (Nat.not_lt_zero _)
 |n+1,h=>(wB.all n fun j hj=>h j (by omega)).and (h n (by omega)) fun m h1 h2 j hj=>by
  grind
theorem M4{h:Heap}{x:AV}{K:Nat→AV→Heap→Option R}{KL:AV→Heap→Option R}(hK:∀v h y,KL v h=some y→wB fun m=>K m v h=some y){r:R}(he:l9 h x KL=some r):wB fun m=>l9 h x (K m)=some r:=by
 unfold l9 at he ⊢
 split at he
 ·rename_i id
  split at he
  ·rename_i kk vk p hg
   try simp only[hg]
   cases hp:p.2 with
   |nil =>simp_all
   |cons c l =>simp only[hp,List.isEmpty_cons,cond_false]at he ⊢;have h1:=pC he;refine(wB.all _ fun j hj=>?_).imp fun m hm=>me (by simp) hm;simp_all
  ·cases he
 ·cases he
theorem T0{h:Heap}{x:AV}{want:Bool}{K:Nat→AV→Option R}{KL:AV→Option R}(hK:∀v y,KL v=some y→wB fun m=>K m v=some y){r:R}(he:wH h x want KL=some r):wB fun m=>wH h x want (K m)=some r:=by
 unfold wH at he ⊢
 split at he
 ·simp_all
 ·rename_i xs hv
  cases Cp:xs.isEmpty with
  |true =>simp only[Cp,cond_true]at he ⊢;have h1:=pC he;exact(wB.all _ fun j hj=>hK _ _ (h1 j hj)).imp fun m hm=>me (by decide) hm
  |false =>simp_all
 ·cases he
theorem C8{A:Nat→FT}{L:FT}(hA:To A L){rid:Nat}{draw:Bool}{ops:Array Oper}{b:Array Nat}{K:Nat→St→Option R}{KL:St→Option R}(hK:ToK K KL) :
  ∀(l:List (Nat×Oper)) (st:St) (r:R),bI P Eqs Sg L rid draw ops b l st KL=some r→wB fun m=>bI P Eqs Sg (A m) rid draw ops b l st (K m)=some r
 |[],st,r,he=>hK st r (by grind [bI])
 |(i,o)::l,st,r,he=>by
  have ih:=C8 hA (rid:=rid) (draw:=draw) (ops:=ops) (b:=b) hK l;have run:∀st:St,(match (if draw then none else qp P (opId rid i) st o) with
    |some fe=>bI P Eqs Sg L rid draw ops b l fe KL
    |none=>match (if draw then none else wG o) with
    |some x=>l9 st.heap (ρ st.tmps x) fun v h=>bI P Eqs Sg L rid draw ops b l (({ st with heap:=h }:St).put o.dst v) KL
    |none=>match (if draw then none else isNil P o) with
    |some (x,want)=>wH st.heap (ρ st.tmps x) want fun v=>bI P Eqs Sg L rid draw ops b l (st.put o.dst v) KL
    |none=>if draw then cZ P Eqs Sg L (opId rid i) (iu (ahead rid (b.getD i 0) st.heap) (ic ops b i st.tmps o)) st.tmps o fun e =>
     if(hZ true rid ops b i (b.getD i 0) (ig (ic ops b i st.tmps o) (ahead rid (b.getD i 0) st.heap) e)&&mG (ic ops b i st.tmps o) e)=true then
      bI P Eqs Sg L rid draw ops b l ({ st with heap:=match ig (ic ops b i st.tmps o) (ahead rid (b.getD i 0) st.heap) e with | .wr _ h=>h|e=>e.h st.heap }.put o.dst e.v) KL else none
     else cZ P Eqs Sg L (opId rid i) st.heap st.tmps o fun e =>
     if hZ false rid ops b i (2 ^ i-1) e then bI P Eqs Sg L rid draw ops b l ({ st with heap:=match e with | .wr _ h=>h|e=>e.h st.heap }.put o.dst e.v) KL else none)=some r →
    wB fun m=>(match (if draw then none else qp P (opId rid i) st o) with
    |some fe=>bI P Eqs Sg (A m) rid draw ops b l fe (K m)
    |none=>match (if draw then none else wG o) with
    |some x=>l9 st.heap (ρ st.tmps x) fun v h=>bI P Eqs Sg (A m) rid draw ops b l (({ st with heap:=h }:St).put o.dst v) (K m)
    |none=>match (if draw then none else isNil P o) with
    |some (x,want)=>wH st.heap (ρ st.tmps x) want fun v=>bI P Eqs Sg (A m) rid draw ops b l (st.put o.dst v) (K m)
    |none=>if draw then cZ P Eqs Sg (A m) (opId rid i) (iu (ahead rid (b.getD i 0) st.heap) (ic ops b i st.tmps o)) st.tmps o fun e =>
     if(hZ true rid ops b i (b.getD i 0) (ig (ic ops b i st.tmps o) (ahead rid (b.getD i 0) st.heap) e)&&mG (ic ops b i st.tmps o) e)=true then
      bI P Eqs Sg (A m) rid draw ops b l ({ st with heap:=match ig (ic ops b i st.tmps o) (ahead rid (b.getD i 0) st.heap) e with | .wr _ h=>h|e=>e.h st.heap }.put o.dst e.v) (K m) else none
     else cZ P Eqs Sg (A m) (opId rid i) st.heap st.tmps o fun e =>
     if hZ false rid ops b i (2 ^ i-1) e then bI P Eqs Sg (A m) rid draw ops b l ({ st with heap:=match e with | .wr _ h=>h|e=>e.h st.heap }.put o.dst e.v) (K m) else none)=some r:=by
   intro st h
   split at h
   ·simp_all
   rename_i qL
   split at h
   ·rename_i x QT
    try simp only[qL,QT]
    exact M4 (fun v h y hy=>ih _ y hy) h
   rename_i QT
   split at h
   ·rename_i x want hnl
    try simp only[qL,QT,hnl]
    exact T0 (fun v y hy=>ih _ y hy) h
   rename_i hnl
   try simp only[qL,QT,hnl]
   cases draw with
   |true =>
    simp only[if_true]at h ⊢;rw[mr]at h;obtain⟨e,h1,h2⟩:=ada.1 h;by_cases hc:(hZ true rid ops b i (b.getD i 0) (ig (ic ops b i st.tmps o) (ahead rid (b.getD i 0) st.heap) e)&&mG (ic ops b i st.tmps o) e)=true
    ·rw[if_pos hc]at h2;refine(Kf hA h1).and (ih _ r h2) fun m h3 h4=>?_;rw[mr,h3,Option.bind_some,if_pos hc];exact h4
    simp_all
   |false =>
    simp only[Bool.false_eq_true,if_false]at h ⊢;rw[mr]at h;obtain⟨e,h1,h2⟩:=ada.1 h;by_cases hc:hZ false rid ops b i (2 ^ i-1) e=true
    ·rw[if_pos hc]at h2;refine(Kf hA h1).and (ih _ r h2) fun m h3 h4=>?_;rw[mr,h3,Option.bind_some,if_pos hc];exact h4
    simp_all
  simp only[bI]at he ⊢
  split at he
  ·rename_i hg
   try simp only[hg]
   exact run _ he
  ·rename_i j want hg
   try simp only[hg]
   split at he
   ·cases he
   ·rename_i d hd
    try simp only[hd]
    split at he
    ·rename_i t ht
     try simp only[ht]
     cases t<;>cases want<;>simp only[cond_true,cond_false,if_true,if_false,Bool.false_eq_true]at he ⊢<;>first|exact run _ he|grind
    ·grind
    ·cases he
theorem Fh{A:Nat→FT}{L:FT}(hA:To A L){n rid:Nat}{ops:Array Oper}{draw:Bool}{K:Nat→St→Option R}{KL:St→Option R}(hK:ToK K KL){st:St}{r:R} (he:ji P Eqs Sg L n rid ops draw st KL=some r):wB fun m=>ji P Eqs Sg (A m) n rid ops draw st (K m)=some r:=by
 unfold ji at he ⊢;by_cases hc:((ops.all fun o=>jh n o)&&(!draw || (wF ops (if draw then Region.before ops else #[])&&(Cg ops (if draw then Region.before ops else #[])&&cf (ops.toList.filterMap (·.dst)))))&&decide (ops.size≤128))=true
 ·dsimp only at he ⊢
  rw[if_pos hc]at he;refine(C8 hA hK _ _ r he).imp fun m hm=>?_;simp_all
 simp_all
theorem g9{A:Nat→FT}{L:FT}(hA:To A L){n:Nat}{ann:Nat→Option Shape}{J:Nat→(sh:Shape)→List Item→sh.T→Option R}{JL:(sh:Shape)→List Item→sh.T→Option R}(hJ:ToJ J JL){ret:St→Option R} :
  ∀(fu:Nat) (items:List Item) (st:St) (r:R),aF P Eqs Sg L n ann JL ret fu items st=some r→wB fun m=>aF P Eqs Sg (A m) n ann (J m) ret fu items st=some r
 |0,items,st,r,he=>by grind [aF]
 |fu+1,[],st,r,he=>.now fun m=>by grind [aF]
 |fu+1,it::SD,st,r,he=>by
  have ih:=g9 hA (n:=n) (ann:=ann) hJ (ret:=ret) fu
  cases it with
  |inBlock id=>grind [aF]
  |inScope c=>grind [aF]
  |inLoop c =>
   simp only[aF]at he ⊢
   split at he
   ·cases he
   ·rename_i sh hsh
    try simp only[hsh]
    split at he
    ·rename_i x hx
     try simp only[hx]
     exact hJ _ _ _ _ he
    ·cases he
  |code c =>
   cases c with
   |cond c x y =>
    simp only[aF]at he ⊢
    grind
   |exit id =>
    grind [aF]
   |ret=>exact .now fun m=>by grind [aF]
   |region id ops draw =>simp only[aF]at he ⊢;exact Fh hA (K:=fun m fe=>aF P Eqs Sg (A m) n ann (J m) ret fu SD fe) (fun st y h=>ih SD st y h) he
   |skip=>grind [aF]
   |label l=>grind [aF]
   |seq x y=>grind [aF]
   |block id c=>grind [aF]
   |scope c=>grind [aF]
   |loop c=>grind [aF]
   |_=>grind [aF]
  |_=>grind [aF]
section
variable {An:FuncId→Nat→Option Shape} {G:(f:FuncId)→(g:aN)→Option (g.A→Option g.B)}
def FLe(F F':FT):Prop:=∀f g x y,F f g x=some y→F' f g x=some y
theorem FLe.to{F F':FT}(h:FLe F F'):To (fun _=>F') F:=fun f g x y hy=>.now fun _=>h f g x y hy
theorem wB.get{p:Prop}(h:wB fun _=>p):p:=by obtain⟨m,hm⟩:=h;exact hm m (acb _)
theorem pH{F F':FT}(h:FLe F F'){f:FuncId}{g:aN}{fn:Func}:∀(n n':Nat) (sh:Shape) (k:List Item) (x:sh.T) (y:g.B),n≤n'→nH P Eqs Sg An F f g fn n sh k x=some y→nH P Eqs Sg An F' f g fn n' sh k x=some y
 |0,_,_,_,_,_,_,hx=>by grind [nH]
 |n+1,0,_,_,_,_,hn,_=>by omega
 |n+1,n'+1,sh,k,x,y,hn,hx=>by
  cases k with
  |nil=>grind [nH]
  |cons it k =>
   cases it with
   |inLoop c =>simp only[nH]at hx ⊢;exact(g9 h.to (J:=fun _=>nH P Eqs Sg An F' f g fn n') (JL:=nH P Eqs Sg An F f g fn n) (fun sh k x y hy=>.now fun _=>pH h n n' sh k x y (by omega) hy) _ _ _ _ hx).get
   |_=>grind [nH]
theorem Ra{F F':FT}(h:FLe F F'){f:FuncId}{g:aN}{n n':Nat}{x:g.A}{y:g.B}(hn:n≤n')(hx:Mx P Eqs Sg An F f g n x=some y):Mx P Eqs Sg An F' f g n' x=some y:=by
 unfold Mx at hx ⊢
 split at hx
 ·cases hx
 ·rename_i fn c hb
  try simp only[hb]
  split at hx
  ·rename_i hc;simp only[if_pos hc];exact(g9 h.to (J:=fun _=>nH P Eqs Sg An F' f g fn n') (JL:=nH P Eqs Sg An F f g fn n) (fun sh k x y hy=>.now fun _=>pH h n n' sh k x y hn hy) _ _ _ _ hx).get
  ·cases hx
theorem BM:∀m,FLe (Fn P Eqs Sg An G m) (Fn P Eqs Sg An G (m+1))
 |0,f,g,x,y,hx=>by
  grind [Fn]
 |m+1,f,g,x,y,hx=>by
  rw[Fn]at hx ⊢
  split at hx
  ·omega
  ·rename_i hu
   try simp only[hu]
   exact Ra (BM m) (Nat.le_succ m) hx
theorem BN{m m':Nat}(h:m≤m'):FLe (Fn P Eqs Sg An G m) (Fn P Eqs Sg An G m'):=by
 induction h with
 |refl=>exact fun _ _ _ _ h=>h
 |step _ ih=>exact fun f g x y hx=>BM _ f g x y (ih f g x y hx)
variable (P Eqs Sg An G) in
open Classical in
noncomputable def Fix:FT:=fun f g x=>if h:∃m y,Fn P Eqs Sg An G m f g x=some y then some (Classical.choose (Classical.choose_spec h)) else none
theorem Ic:To (Fn P Eqs Sg An G) (Fix P Eqs Sg An G):=fun f g x y hy=>by
 unfold Fix at hy
 split at hy
 ·rename_i h
  cases hy
  exact⟨Classical.choose h,fun m' hm=>BN hm _ _ _ _ (Classical.choose_spec (Classical.choose_spec h))⟩
 ·cases hy
theorem T1{m:Nat}{f:FuncId}{g:aN}{x:g.A}{y:g.B}(h:Fn P Eqs Sg An G m f g x=some y):Fix P Eqs Sg An G f g x=some y:=by
 have he:∃m y,Fn P Eqs Sg An G m f g x=some y:=⟨m,y,h⟩
 cases hy:Fix P Eqs Sg An G f g x with
 |none=>simp_all [Fix,dif_pos]
 |some y' =>obtain⟨m1,h1⟩:=Ic f g x y' hy;have h2:=h1 (max m m1) (by omega);have h3:=BN (show m≤max m m1 by omega) f g x y h;simp_all
variable (P Eqs Sg An G) in
open Classical in
noncomputable def Lp(f:FuncId)(g:aN)(fn:Func)(sh:Shape)(k:List Item)(x:sh.T):Option g.B :=if h:∃m y,nH P Eqs Sg An (Fn P Eqs Sg An G m) f g fn m sh k x=some y then some (Classical.choose (Classical.choose_spec h)) else none
theorem T2{f:FuncId}{g:aN}{fn:Func}:ToJ (fun m=>nH P Eqs Sg An (Fn P Eqs Sg An G m) f g fn m) (Lp P Eqs Sg An G f g fn):=fun sh k x y hy=>by
 unfold Lp at hy
 split at hy
 ·rename_i h
  cases hy
  exact⟨Classical.choose h,fun m' hm=>pH (BN hm) _ _ _ _ _ _ hm (Classical.choose_spec (Classical.choose_spec h))⟩
 ·cases hy
theorem ael{m:Nat}{f:FuncId}{g:aN}{fn:Func}{sh:Shape}{k:List Item}{x:sh.T}{y:g.B}(h:nH P Eqs Sg An (Fn P Eqs Sg An G m) f g fn m sh k x=some y):Lp P Eqs Sg An G f g fn sh k x=some y:=by
 have he:∃m y,nH P Eqs Sg An (Fn P Eqs Sg An G m) f g fn m sh k x=some y:=⟨m,y,h⟩
 cases hy:Lp P Eqs Sg An G f g fn sh k x with
 |none=>simp_all [Lp,dif_pos]
 |some y' =>obtain⟨m1,h1⟩:=T2 sh k x y' hy;have h2:=h1 (max m m1) (by omega);have h3:=pH (BN (show m≤max m m1 by omega)) m (max m m1) sh k x y (by omega) h;simp_all
theorem OE{f:FuncId}{g:aN}{x:g.A}{y:g.B}{fn:Func}{c:Code}(hG:G f g=none)(hb:body P (f%1000)=some (fn,c))(hc:(decide (g.ps.length≤fn.ntmps)&&decide (g.bs.length≤8))=true) (h:aF P Eqs Sg (Fix P Eqs Sg An G) fn.ntmps (An f) (Lp P Eqs Sg An G f g fn) (sy P g fn) fuel [.code c] (entry g x)=some y):Fix P Eqs Sg An G f g x=some y:=by obtain⟨m,hm⟩:=g9 (Ic (P:=P) (Eqs:=Eqs) (Sg:=Sg) (An:=An) (G:=G)) (T2 (f:=f) (g:=g) (fn:=fn)) _ _ _ _ h;refine T1 (m:=m+1) ?_;simp_all [Fn,Mx,if_pos,Nat.le_refl]
theorem GC{f:FuncId}{g:aN}{x:g.A}{y:g.B}{u:g.A→Option g.B}(hG:G f g=some u)(h:u x=some y):Fix P Eqs Sg An G f g x=some y:=by
 refine T1 (m:=0) ?_
 grind [Fn]
theorem T3{f:FuncId}{g:aN}{fn:Func}{sh:Shape}{c:Code}{k:List Item}{x:sh.T}{y:g.B} (h:aF P Eqs Sg (Fix P Eqs Sg An G) fn.ntmps (An f) (Lp P Eqs Sg An G f g fn) (sy P g fn) fuel (.code c::.inLoop c::k) (aw sh x)=some y):Lp P Eqs Sg An G f g fn sh (.inLoop c::k) x=some y:=by obtain⟨m,hm⟩:=g9 (Ic (P:=P) (Eqs:=Eqs) (Sg:=Sg) (An:=An) (G:=G)) (T2 (f:=f) (g:=g) (fn:=fn)) _ _ _ _ h;refine ael (m:=m+1) ?_;simp only[nH];refine(g9 (L:=Fn P Eqs Sg An G m) (FLe.to (BM m)) (J:=fun _=>nH P Eqs Sg An (Fn P Eqs Sg An G (m+1)) f g fn m) (JL:=nH P Eqs Sg An (Fn P Eqs Sg An G m) f g fn m) (fun sh k x y hy=>.now fun _=>pH (BM m) m m sh k x y (acb _) hy) _ _ _ _ (hm m (acb _))).get
theorem BO(hX:∀f g u,Sg f=some g→g.x=some u→gE P (f%1000) u)(EW:∀t k,Eqs t=some k→mL P t k)(QI:∀f g,Sg f=some g→jR P (f%1000))(hm:P.follows .mixedOrders=true) (hG:∀f g u x y,Sg f=some g→G f g=some u→u x=some y→Gn P f g x y) {f:FuncId} {g:aN} {x:g.A} {y:g.B} (hs:Sg f=some g) (h:Fix P Eqs Sg An G f g x=some y):Gn P f g x y:=by obtain⟨m,ZE⟩:=Ic f g x y h;exact Ke hX EW QI hm hG m f g x y hs (ZE m (acb _))
end
end Go.Vs
namespace Go.Vs
open Go.Proofs
abbrev ab:=((Int×Int)×Int)
abbrev ID:=(Int×Int)
abbrev ai:=(ID×((List ab)×(ByteArray×Int)))
abbrev ag:=(ID×(ByteArray×Int))
abbrev ak:=((List ai)×(List ag))
abbrev ax:=(ab×ab)
abbrev StateT:=(ak×(List ax))
abbrev rC:=(ID×ab)
abbrev bq:=(Int×(ID×(ID×(ID×(rC×(rC×(Bool×(ByteArray×Int))))))))
abbrev aW:=((List ai)×((List ag)×((List ax)×Unit)))
abbrev lI{α:Type}(l:List α):Int:=((l.length:Nat):Int)
abbrev wI(n:Int):Int:=IntKind.wrap .i64 n
abbrev OI:ID:=(0,0)
abbrev OD:ab:=(OI,0)
abbrev OC:rC:=(OI,OD)
abbrev OB:ByteArray:=⟨#[]⟩
abbrev OS:StateT:=(([],[]),[])
abbrev OW:aW:=([],([],([],())))
abbrev k13:K:=(.pair .str (.int .u64))
abbrev fV:K:=(.pair (.int .i64) (.int .i64))
abbrev k68:K:=(.pair .str (.pair (.int .i64) .bool))
abbrev bg:K:=(.pair fV (.int .i64))
abbrev k7:K:=(.pair (.int .i64) (.pair (.int .i64) (.pair .bool (.int .u8))))
abbrev di:K:=(.pair fV (.pair .str (.int .i64)))
abbrev T4:K:=(.pair fV bg)
abbrev cw:K:=(.pair bg bg)
abbrev cP:K:=(.pair fV (.pair (.sl bg) (.pair .str (.int .i64))))
abbrev dG:K:=(.pair (.sl cP) (.sl di))
abbrev kX:K:=(.pair dG (.sl cw))
abbrev sN:K:=(.pair (.int .i64) (.pair fV (.pair fV (.pair fV (.pair T4 (.pair T4 (.pair .bool (.pair .str (.int .i64)))))))))
abbrev qN:K:=(.one (.sl sN))
def qO(xs:List ai)(ys:List ag):Bool:=decide (xs.length≤50000000)&&(decide (ys.length≤50000000)&&xs.all fun v=>decide (v.2.1.length≤50000000))
def Ie(h:Heap)(id:Nat):List AV→Option (Bool×bE)
 |[.agg [.bK a,.bK b]]=>match eQ h (.row 38 cP) (.bK a),eQ h (.row 84 di) (.bK b) with
  |some xs,some ys=>if a=b then none else some (qO xs ys,.new (.agg [.bK (id+128),.bK (id+129)]) [(id+128,.own (.row 38 cP) xs),(id+129,.own (.row 84 di) ys)])
  |_,_=>none
 |_=>none
abbrev ad6(a:List PK)(b:List RK):aN:={ ps:=a,bs:=[],rs:=b }
abbrev ad9:K:=.int .i64
def T5:=ad6 [.val kX,.val sN] [.val kX,.val ad9]
def uP:=ad6 [.val kX,.val kX] [.val .bool]
def rS:=ad6 [.val dG,.val fV] [.val cP,.val .bool]
def C9:=ad6 [.val fV] [.val .bool]
def vT:=ad6 [.val dG,.val bg] [.val fV,.val .bool]
def Bj:=ad6 [.val dG,.val fV] [.val di,.val .bool]
def Kg:=ad6 [.val dG,.val bg] [.val (.sl bg)]
def Fi:=ad6 [.val bg] [.val bg]
def sO:=ad6 [.val (.sl bg),.val bg] [.val ad9]
def Rb:=ad6 [.val (.sl bg),.val bg] [.val bg,.val .bool]
def Da:=ad6 [.val dG,.val dG] [.val .bool]
def Ig:=ad6 [.val .str] [.val .bool]
def Rc:=ad6 [.val ad9] [.val .bool]
def T6:=ad6 [.val kX,.val qN] [.val kX,.val ad9]
def Kh:=ad6 [.val dG] [.own (.row 36 (.sl bg))]
def Ki:=ad6 [.val dG] [.val ad9]
def Kj:=ad6 [.val kX,.val qN] [.val kX,.val ad9]
def Kk:=ad6 [.val kX,.val qN] [.val kX]
def T7:=ad6 [.val kX,.val qN] [.val kX]
def Fj:=ad6 [.val dG] [.agg [.own (.row 38 cP),.own (.row 84 di)]]
def Kl:=ad6 [.val qN] [.val ad9]
def T8:=ad6 [.val sN] [.val ad9]
def Km:=ad6 [.val kX,.val (.sl sN)] [.val kX,.val ad9]
def Rd:=ad6 [.val sN] [.val ad9]
def Ih:=ad6 [.val dG,.val cP] [.val dG]
def qP:=ad6 [.val dG,.val fV,.val fV] [.val dG]
def T9:=ad6 [.val kX,.val sN] [.val kX,.val ad9]
def Ua:=ad6 [.val kX,.val sN] [.val kX,.val ad9]
def Ub:=ad6 [.val kX,.val sN] [.val kX,.val ad9]
def Bk:=ad6 [.val kX,.val sN] [.val kX,.val ad9]
def Db:=ad6 [.val kX,.val sN] [.val kX,.val ad9]
def Ii:=ad6 [.val (.sl cw),.val (.sl cw)] [.val .bool]
def Re:=ad6 [.val dG,.val bg] [.val bg,.val .bool]
def Fk:=ad6 [.val dG,.val fV] [.val ad9]
def uQ:=ad6 [.val dG] [.own (.row 3 ad9)]
def Kn:=ad6 [.val (.sl bg),.val (.sl bg)] [.val .bool]
def Ij:=ad6 [.val qN] [.val ad9]
def Ik:=ad6 [.val dG] [.own (.row 40 bg)]
def Il:=ad6 [.val dG] [.agg [.own (.row 38 cP),.own (.row 84 di)]]
def Ko:=ad6 [.val (.sl cw)] [.own (.row 42 cw)]
def Rf:=ad6 [.val bg,.val bg] [.val ad9]
def Kp:=ad6 [.val dG] [.val ad9]
def Uc:=ad6 [.val sN] [.val sN,.val ad9]
def Im:aN:={ ps:=[.ref,.val sN],bs:=[.box 128 [.own (.row 38 cP),.own (.row 84 di),.val (.sl cw)]],rs:=[.val ad9] }
def Rg:=ad6 [.val sN] [.val sN]
def Rh:=ad6 [.val T4] [.val .bool]
def Kq:=ad6 [.val fV,.val fV] [.val ad9]
def Ri:=ad6 [.val kX,.val T4] [.val T4,.val ad9]
def Bl:=ad6 [.val dG,.val di] [.val dG]
def Bm:=ad6 [.val dG,.val T4,.val bg] [.val dG]
def Bn:=ad6 [.val (.sl cw),.val cw] [.val (.sl cw)]
def Rj:=ad6 [.val dG,.val bg] [.val bg]
def Rk:=ad6 [.val dG,.val bg] [.val dG]
def Kr:=ad6 [.val dG,.val bg,.val bg] [.val dG]
def rT:=ad6 [.val (.sl bg)] [.own (.row 40 bg)]
def Ud:=ad6 [.val dG,.val bg] [.val bg,.val .bool]
def Rl:=ad6 [.val (.sl cP)] [.own (.row 38 cP)]
def Rm:=ad6 [.val (.sl di)] [.own (.row 84 di)]
def Bo:=ad6 [.val (.sl bg)] [.own (.row 40 bg)]
def Io:=ad6 [.val dG] [.val ad9,.val ad9,.val ad9,.val ad9]
def qQ:=ad6 [.val fV] [.val .bool]
def Fl:=ad6 [.val T4] [.val .bool]
def xh:=ad6 [.val .str] [.val .bool]
def Ip:=ad6 [.val ad9] [.val .bool]
def Ks:aN:={ ps:=[.ref,.val cP],bs:=[.box 128 [.own (.row 38 cP),.own (.row 84 di),.val (.sl cw)]],rs:=[.val ad9] }
def Ue:aN:={ ps:=[.ref,.val sN],bs:=[.box 128 [.own (.row 38 cP),.own (.row 84 di),.val (.sl cw)]],rs:=[.val ad9] }
def qR:aN:={ ps:=[.ref,.val sN],bs:=[.box 128 [.own (.row 38 cP),.own (.row 84 di),.val (.sl cw)]],rs:=[.val ad9] }
def Dc:aN:={ ps:=[.ref,.val sN],bs:=[.box 128 [.own (.row 38 cP),.own (.row 84 di),.val (.sl cw)]],rs:=[.val ad9] }
def Bp:aN:={ ps:=[.ref,.val sN],bs:=[.box 128 [.own (.row 38 cP),.own (.row 84 di),.val (.sl cw)]],rs:=[.val ad9] }
def sP:aN:={ ps:=[.ref,.val sN],bs:=[.box 128 [.own (.row 38 cP),.own (.row 84 di),.val (.sl cw)]],rs:=[.val ad9] }
def Uf:aN:={ ps:=[.ref,.val sN],bs:=[.box 128 [.own (.row 38 cP),.own (.row 84 di),.val (.sl cw)]],rs:=[.val ad9] }
def Ug:=ad6 [.val bg] [.val .bool]
def Kt:=ad6 [.val kX,.val bg] [.val bg]
def Fm:=ad6 [.val dG,.val fV,.val (.sl bg)] [.val dG]
def AH:=ad6 [.val (.sl bg),.val bg,.val bg] [.own (.row 40 bg)]
def vl:=ad6 [.val (.sl cw),.val bg] [.val bg,.val .bool]
def AI:=ad6 [.val (.sl bg),.val bg] [.own (.row 40 bg)]
def Ku:=ad6 [.val (.sl bg),.val bg,.val bg] [.own (.row 40 bg)]
def Kv:=ad6 [.val (.sl bg),.val bg] [.val bg,.val .bool]
def Dd:=ad6 [.val bg] [.val .bool]
def rD:aN:={ ps:=[.ref,.val fV],bs:=[.box 128 [.own (.row 38 cP),.own (.row 84 di),.val (.sl cw)]],rs:=[.val ad9,.val .bool] }
def ZT:aN:={ ps:=[],bs:=[],rs:=[],x:=some (SR 38 cP) }
def ZU:aN:={ ps:=[],bs:=[],rs:=[],x:=some (XN 38 cP) }
def AJ:aN:={ ps:=[.ref,.val fV],bs:=[.box 128 [.own (.row 38 cP),.own (.row 84 di),.val (.sl cw)]],rs:=[.val ad9] }
def De:=ad6 [.val fV] [.val bg,.val bg]
def Kw:=ad6 [.val kX,.val T4] [.val T4,.val ad9]
def Df:=ad6 [.val (.sl bg),.val bg,.val bg] [.own (.row 40 bg)]
def AK:=ad6 [.val dG] [.val .bool]
def oc:aN:={ ps:=[.ref,.val fV],bs:=[.box 128 [.own (.row 38 cP),.own (.row 84 di),.val (.sl cw)]],rs:=[.val ad9,.val .bool] }
def Dg:aN:={ ps:=[.ref,.val bg,.val bg],bs:=[.box 128 [.own (.row 38 cP),.own (.row 84 di),.val (.sl cw)]],rs:=[] }
def Dh:aN:={ ps:=[.ref,.val bg],bs:=[.box 128 [.own (.row 38 cP),.own (.row 84 di),.val (.sl cw)]],rs:=[.val bg] }
def mY:aN:={ ps:=[.ref,.val bg],bs:=[.box 128 [.own (.row 38 cP),.own (.row 84 di),.val (.sl cw)]],rs:=[.fj 0 [(0,5,0)]] }
def Kx:=ad6 [.val (.sl bg),.val bg] [.own (.row 40 bg)]
def ZV:aN:={ ps:=[],bs:=[],rs:=[],x:=some (XN 84 di) }
def vm:=ad6 [.val (.sl bg),.val bg,.val bg] [.own (.row 40 bg)]
def pI:=ad6 [.val bg] [.val bg]
def rE:=ad6 [.val (.sl bg)] [.own (.row 40 bg)]
def Ky:aN:={ ps:=[.ref,.val sN],bs:=[.box 128 [.own (.row 38 cP),.own (.row 84 di),.val (.sl cw)]],rs:=[.fj 0 [(0,5,3),(1,4,2)],.fj 0 [(0,5,4),(1,4,3)]] }
def GD:=ad6 [.val cP,.val fV] [.val ad9]
def AL:=ad6 [.val fV,.val fV] [.val ad9]
def ZW:aN:={ ps:=[],bs:=[],rs:=[],x:=some (SR 84 di) }
def Kz:=ad6 [.val dG,.val fV] [.val cP,.val .bool]
def AM:=ad6 [.val kX,.val bg] [.val bg]
def xi:=ad6 [.val (.sl bg),.val bg] [.val .bool]
def mZ:=ad6 [.val (.sl bg),.val bg] [.val ad9]
def pJ:=ad6 [.val (.sl (.sl bg))] [.own (.row 40 bg)]
def KA:=ad6 [.val dG] [.val ad9]
def GF:=ad6 [.val di,.val fV] [.val ad9]
def KB:=ad6 [.val (.sl cw),.val cw] [.own (.row 42 cw)]
def GG:=ad6 [.val (.sl bg),.val bg] [.val bg,.val .bool]
def AO:=ad6 [.val bg,.val bg] [.val ad9]
def pK:=ad6 [.val (.sl (.sl bg))] [.own (.row 40 bg)]
def xj:=ad6 [.val (.sl ad9)] [.val ad9]
def Di:=ad6 [.val ad9,.val ad9] [.val ad9]
def Dk:=ad6 [.val cP] [.val fV]
def xk:=ad6 [.val dG,.val bg] [.val fV,.val .bool]
def KC:=ad6 [.val (.sl cw),.val bg] [.val bg,.val .bool]
def KD:=ad6 [.val dG] [.val ad9,.val ad9,.val ad9,.val ad9]
def GH:=ad6 [.val cw,.val bg] [.val ad9]
def ZX:aN:={ ps:=[],bs:=[],rs:=[],x:=some (SR 42 cw) }
def Dl:=ad6 [.val (.sl bg),.val bg,.val ad9] [.val bg,.val .bool]
def ZY:aN:={ ps:=[],bs:=[],rs:=[],x:=some (SS 40 bg) }
def Dm:=ad6 [.val ad9] [.val .bool]
def KE:aN:={ ps:=[.val cw,.ref],bs:=[.box 40 [.val ad9,.val ad9,.val ad9]],rs:=[.val .bool] }
def KF:=ad6 [.val cP] [.val .bool]
def AP:=ad6 [.val dG] [.own (.row 36 (.sl bg))]
def AQ:=ad6 [.val dG] [.val ad9]
def xl:=ad6 [.val dG] [.own (.row 40 bg)]
def ZZ:=ad6 [.val dG] [.own (.row 163 (.sl fV))]
def GI:=ad6 [.val dG,.val bg] [.val bg,.val .bool]
def iD:=ad6 [.val dG] [.own (.row 3 ad9)]
def AR:=ad6 [.val dG,.val bg] [.val bg,.val .bool]
def KG:aN:={ ps:=[.own,.val ad9,.val ad9],bs:=[.own (.row 3 ad9)],rs:=[] }
def sQ:aN:={ ps:=[.own,.val ad9],bs:=[.own (.row 3 ad9)],rs:=[.val ad9] }
def KH:=ad6 [.val (.sl bg),.val bg] [.val bg,.val .bool]
def jT:=ad6 [.val (.sl cP),.val fV,.wz 188 0] [.val ad9,.val .bool]
def jU:=ad6 [.val (.sl di),.val fV,.wz 198 0] [.val ad9,.val .bool]
def lz:=ad6 [.val (.sl bg),.wz 73 0] [.val bg]
def lA:=ad6 [.val (.sl cP),.wz 135 0,.val fV] [.val cP,.val .bool]
def jV:=ad6 [.val (.sl cw),.val bg,.wz 219 0] [.val ad9,.val .bool]
def jW:aN:={ ps:=[.val (.sl cw),.wz 231 1],bs:=[.box 40 [.val bg]],rs:=[.val ad9] }
def lB:=ad6 [.val (.sl cP),.wz 206 0] [.val ad9]
def KI:aN:={ ps:=[],bs:=[],rs:=[],x:=some Ie }
def Uh:=ad6 [] []
abbrev k98:K:=(.pair qN fV)
abbrev OF:K:=(.pair kX (.pair ad9 (.sl qN)))
abbrev dL:=(StateT×(Int×((List (List bq))×Unit)))
abbrev SF:=(((List Int)×(Int×Unit))×Unit)
abbrev Q48:=((Int×(StateT×(Int×Unit)))×Unit)
abbrev Q49:=((Int×((List Int)×(Bool×Unit)))×Unit)
abbrev Q50:=((Int×Unit)×(((List Int)×(Bool×Unit))×Unit))
abbrev Q51:=((ID×((List Int)×(Bool×Unit)))×Unit)
abbrev Xx:=(((List Int)×Unit)×Unit)
abbrev Q44:=((Bool×Unit)×((Unit×Unit)×Unit))
abbrev Q45:=(((List Bool)×Unit)×Unit)
abbrev Q46:=((Int×Unit)×((Unit×Unit)×Unit))
abbrev Q40:=((List bq)×ID)
abbrev Q41:=(((List (List bq))×(Int×Unit))×(dL×Unit))
abbrev Q42:=((StateT×Unit)×(dL×Unit))
abbrev Q0:=((Bool×Unit)×Unit)
abbrev Q1:=((StateT×(Int×Unit))×Unit)
abbrev Q2:=((Int×Unit)×Unit)
abbrev Q3:=(((List bq)×Unit)×Unit)
abbrev Q4:=((StateT×Unit)×Unit)
abbrev Q5:=((ak×Unit)×Unit)
abbrev Q6:=(((List ab)×Unit)×Unit)
abbrev Q7:=((ai×(Bool×Unit))×Unit)
abbrev Q8:=(List bq)
abbrev Q9:=((Int×Unit)×(dL×Unit))
abbrev Q10:=((ag×(Bool×Unit))×Unit)
abbrev Iq:=((ab×Unit)×Unit)
abbrev OG:=((ab×(Bool×Unit))×Unit)
abbrev Xy:=((ID×(Bool×Unit))×Unit)
abbrev M5:=((Int×(Bool×Unit))×(aW×Unit))
abbrev Q15:=((StateT×(bq×Unit))×Unit)
abbrev Q16:=((StateT×((List bq)×Unit))×Unit)
abbrev Q17:=(((List (List bq))×Unit)×Unit)
abbrev Yf:=(((List ax)×Unit)×Unit)
abbrev Ui:=((Int×Unit)×(aW×Unit))
abbrev Yg:=((ak×(ab×Unit))×Unit)
abbrev Yh:=(((List ab)×(ab×Unit))×Unit)
abbrev Q22:=((bq×Unit)×(aW×Unit))
abbrev Q23:=((StateT×Unit)×((List (List bq))×Unit))
abbrev Q24:=(((List bq)×(Int×Unit))×Unit)
abbrev Q25:=(((List (List ab))×Unit)×Unit)
abbrev Q26:=((((List ai)×((List ag)×Unit))×Unit)×Unit)
abbrev Q27:=((rC×Unit)×Unit)
abbrev Q28:=((Int×(Int×Unit))×(dL×Unit))
abbrev Q29:=((StateT×((List (List bq))×Unit))×Unit)
abbrev Q30:=((ak×(ID×Unit))×Unit)
abbrev Q31:=(((Option ((Fin 1)×Nat))×Unit)×(aW×Unit))
abbrev Q32:=(Unit×(dL×Unit))
abbrev Q33:=((ab×(ab×Unit))×Unit)
abbrev Q34:=(((List ab)×(ab×(ab×Unit)))×Unit)
abbrev Q35:=((Int×Unit)×((List Int)×Unit))
abbrev Q36:=((StateT×(Int×Unit))×(dL×Unit))
abbrev Q37:=(((List Bool)×Unit)×((List (List bq))×Unit))
abbrev Q38:=((Bool×(Int×Unit))×(((StateT×Unit)×((bq×Unit)×(aW×(((List ai)×((List ag)×Unit))×Unit))))×Unit))
abbrev Q39:=((Int×Unit)×((aW×((ab×Unit)×((ab×Unit)×((ab×Unit)×Unit))))×Unit))
def abH(_:Heap)(id:Nat):List AV→Option (Bool×bE)
 |[]=>some (true,.new (.ref (id+128) 0 0 0) [(id+128,.box 94 (enc OF (kf OF)))])
 |_=>none
def M6(h:Heap)(_:Nat):List AV→Option (Bool×bE)
 |[.ref i 0 0 0]=>match B9 h i 94 with
  |some cs=>match dv OF cs with
   |some x=>some (true,.val (.int .i64 x.2.1))
   |none=>none
  |none=>none
 |_=>none
def aoc(h:Heap)(id:Nat):List AV→Option (Bool×bE)
 |[.ref i 0 0 0]=>match B9 h i 94 with
  |some cs=>match dv OF cs with
   |some x=>some (true,.new (.ref (id+128) 0 0 0) [(id+128,.box 94 (enc OF x))])
   |none=>none
  |none=>none
 |_=>none
def Uj(_:Heap)(_:Nat):List AV→Option (Bool×bE)
 |[.sl _ k xs]=>some (true,.val (.sl true k xs))
 |[.fW]=>some (true,.val .fW)
 |_=>none
def Dn:=ad6 [.val kX,.val (.sl qN)] [.val kX]
def xm:=ad6 [.val kX,.val (.sl qN)] [.val kX]
def KJ:=ad6 [] [.val .bool]
def GJ:aN:={ ps:=[.ref,.val qN],bs:=[.box 94 [.val kX,.val ad9,.val (.sl qN)]],rs:=[.val ad9,.val ad9] }
def KK:=ad6 [.val ad9] [.val qN]
def Dp:aN:={ ps:=[.ref,.val ad9],bs:=[.box 94 [.val kX,.val ad9,.val (.sl qN)]],rs:=[.val ad9] }
def gH:aN:={ ps:=[.ref],bs:=[.box 94 [.val kX,.val ad9,.val (.sl qN)]],rs:=[.val ad9] }
def aac:aN:={ ps:=[],bs:=[],rs:=[],x:=some M6 }
def GK:=ad6 [.val qN] [.val qN]
def KM:aN:={ ps:=[.ref,.val ad9],bs:=[.box 94 [.val kX,.val ad9,.val (.sl qN)]],rs:=[.val kX,.val ad9] }
def vn:aN:={ ps:=[.ref],bs:=[.box 94 [.val kX,.val ad9,.val (.sl qN)]],rs:=[.val kX] }
def KN:=ad6 [.val kX,.val qN] []
def KO:=ad6 [.val (.sl sN)] [.val (.sl sN)]
def AS:=ad6 [.val (.sl (.int .u8)),.val (.sl (.int .u8))] [.val .bool]
def kh:=ad6 [.val dG] [.own (.row 5 (.int .u8)),.val ad9]
def Dq:=ad6 [.val (.sl (.int .u8)),.val fV] [.own (.row 5 (.int .u8))]
def KP:=ad6 [.val di] [.val fV]
def KQ:=ad6 [.val dG] [.val ad9]
def GL:=ad6 [.val (.sl (.int .u8)),.val di] [.own (.row 5 (.int .u8))]
def KR:=ad6 [.val dG] [.val ad9]
def rF:=ad6 [.val (.sl (.int .u8)),.val ad9] [.own (.row 5 (.int .u8))]
def KS:=ad6 [.val (.sl (.int .u8)),.val .str] [.own (.row 5 (.int .u8))]
def xn:=ad6 [.val (.sl fV)] [.val .bool]
def lZ:=ad6 [.val dG] [.val .bool]
def GM:=ad6 [.val .str,.val ad9] [.val .bool]
def GN:=ad6 [.val .str,.val ad9] [.val .bool]
def aad:aN:={ ps:=[],bs:=[],rs:=[],x:=some Uj }
def AT:=ad6 [.val (.sl bg),.val (.sl bg)] [.val .bool]
def lC:=ad6 [.val kX,.val (.sl qN),.wz 36 0] [.val kX]
def aae:aN:={ ps:=[],bs:=[],rs:=[],x:=some abH }
def Rn:=ad6 [] []
def Ro:=ad6 [] []
def Uk:=ad6 [] []
def Rp:=ad6 [] []
def lD:=ad6 [.val (.sl cP),.wz 135 0] [.own (.row 35 fV)]
def lE:=ad6 [.val (.sl di),.wz 137 0] [.own (.row 35 fV)]
def sR:=ad6 [.val dG,.wz 140 0] [.val .bool]
def sS:=ad6 [.val dG,.wz 142 0] [.val .bool]
def iE:aN:={ ps:=[.val (.sl cP),.wz 180 1],bs:=[.box 169 [.val (.fn 140)]],rs:=[.val .bool] }
def iF:aN:={ ps:=[.val (.sl cP),.wz 180 1],bs:=[.box 169 [.val (.fn 142)]],rs:=[.val .bool] }
def dM:aN:={ ps:=[.val (.sl cP),.wz 180 1],bs:=[.box 169 [.val (.fn 140)]],rs:=[.val ad9] }
def dN:aN:={ ps:=[.val (.sl cP),.wz 180 1],bs:=[.box 169 [.val (.fn 142)]],rs:=[.val ad9] }
def iG:aN:={ ps:=[.val (.sl di),.wz 182 1],bs:=[.box 169 [.val (.fn 140)]],rs:=[.val .bool] }
def iH:aN:={ ps:=[.val (.sl di),.wz 182 1],bs:=[.box 169 [.val (.fn 142)]],rs:=[.val .bool] }
def dO:aN:={ ps:=[.val (.sl di),.wz 182 1],bs:=[.box 169 [.val (.fn 140)]],rs:=[.val ad9] }
def dP:aN:={ ps:=[.val (.sl di),.wz 182 1],bs:=[.box 169 [.val (.fn 142)]],rs:=[.val ad9] }
def iI:aN:={ ps:=[.val cP,.ref],bs:=[.box 169 [.val (.fn 140)]],rs:=[.val .bool] }
def iJ:aN:={ ps:=[.val cP,.ref],bs:=[.box 169 [.val (.fn 142)]],rs:=[.val .bool] }
def iK:aN:={ ps:=[.val di,.ref],bs:=[.box 169 [.val (.fn 140)]],rs:=[.val .bool] }
def iL:aN:={ ps:=[.val di,.ref],bs:=[.box 169 [.val (.fn 142)]],rs:=[.val .bool] }
def xp:=ad6 [.val (.sl qN),.val ad9] [.val .bool]
def ki:=ad6 [.val ad9,.val kX] [.own (.row 5 (.int .u8)),.val ad9]
def nc:=ad6 [.val (.sl (.int .u8))] [.val ad9,.val kX,.val ad9]
def xq:=ad6 [.val (.sl cw)] [.val .bool]
def pM:=ad6 [.val (.sl (.int .u8))] [.val ad9,.val (.sl (.int .u8)),.val .bool]
def jC:=ad6 [.val (.sl (.int .u8))] [.val dG,.val ad9]
def KT:=ad6 [.val (.sl (.int .u8))] [.val cw,.val (.sl (.int .u8)),.val .bool]
def AU:aN:={ ps:=[.ref],bs:=[.box 116 [.val (.sl (.int .u8)),.val .bool]],rs:=[.val ad9] }
def GO:aN:={ ps:=[.ref],bs:=[.box 116 [.val (.sl (.int .u8)),.val .bool]],rs:=[.val di] }
def GQ:=ad6 [.val (.sl (.int .u8))] [.val (.sl (.int .u8)),.val (.sl (.int .u8)),.val .bool]
def ng:=ad6 [.val (.sl (.int .u8))] [.val fV,.val (.sl (.int .u8)),.val .bool]
def KU:=ad6 [.val (.sl (.int .u8))] [.val .str,.val (.sl (.int .u8)),.val .bool]
def sgs:List (Nat×aN):=[(66,T5),(14,uP),(87,rS),(104,C9),(174,vT),(123,Bj),(210,Kg),(131,Fi),(170,sO),(175,Rb),(37,Da),(122,Ig),(121,Rc),(40,T6),(185,Kh),(186,Ki),(41,Kj),(62,Kk),(26,T7),(12,Fj),(65,Kl),(82,T8),(64,Km),(86,Rd),(88,Ih),(89,qP),(90,T9),(91,Ua),(92,Ub),(93,Bk),(94,Db),(38,Ii),(226,Re),(227,Fk),(211,uQ),(63,Kn),(59,Ij),(209,Ik),(83,Il),(84,Ko),(75,Rf),(99,Kp),(108,Uc),(85,Im),(119,Rg),(120,Rh),(105,Kq),(124,Ri),(125,Bl),(126,Bm),(127,Bn),(128,Rj),(129,Rk),(130,Kr),(132,rT),(237,Ud),(109,Rl),(110,Rm),(111,Bo),(149,Io),(100,qQ),(151,Fl),(141,xh),(143,Ip),(112,Ks),(113,Ue),(114,qR),(115,Dc),(116,Bp),(117,sP),(118,Uf),(74,Ug),(169,Kt),(171,Fm),(172,AH),(173,vl),(176,AI),(177,Ku),(243,Kv),(72,Dd),(152,rD),(153,ZT),(154,ZU),(155,AJ),(156,De),(157,Kw),(158,Df),(96,AK),(159,oc),(160,Dg),(161,Dh),(162,mY),(163,Kx),(164,ZV),(165,vm),(166,pI),(167,rE),(168,Ky),(188,GD),(102,AL),(191,ZW),(192,Kz),(193,AM),(194,xi),(195,mZ),(196,pJ),(144,KA),(198,GF),(199,KB),(200,GG),(73,AO),(202,pK),(101,xj),(103,Di),(135,Dk),(216,xk),(217,KC),(183,KD),(219,GH),(220,ZX),(221,Dl),(222,ZY),(150,Dm),(231,KE),(206,KF),(207,AP),(208,AQ),(223,xl),(225,ZZ),(235,GI),(236,iD),(240,AR),(241,KG),(242,sQ),(245,KH),(189187,jT),(199197,jU),(74201,lz),(136215,lA),(220218,jV),(232230,jW),(207205,lB),(500083,KI),(900059,Uh),(13,Dn),(10,xm),(20,KJ),(29,GJ),(47,KK),(31,Dp),(32,gH),(33,aac),(27,GK),(61,KM),(30,vn),(36,KN),(60,KO),(46,AS),(42,kh),(43,Dq),(137,KP),(67,KQ),(68,GL),(95,KR),(49,rF),(97,KS),(133,xn),(138,lZ),(140,GM),(142,GN),(145,aad),(178,AT),(37035,lC),(28,aae),(2514003,Rn),(3537003,Ro),(900022,Uk),(2769003,Rp),(136134,lD),(138136,lE),(141139,sR),(143139,sS),(14100181179,iE),(14300181179,iF),(14100181203,dM),(14300181203,dN),(14100183181,iG),(14300183181,iH),(14100183204,dO),(14300183204,dP),(14100000180,iI),(14300000180,iJ),(14100000182,iK),(14300000182,iL),(8,xp),(22,ki),(24,nc),(48,xq),(53,pM),(54,jC),(55,KT),(76,AU),(77,GO),(78,GQ),(79,ng),(106,KU)]
def Sg(f:FuncId):Option aN:=(sgs.find? (fun p=>p.1==f)).map (fun p=>p.2)
def eqs:List (Nat×K):=[(35,fV),(40,bg),(98,T4),(100,sN),(84,di),(42,cw)]
def Eqs(t:TypeId):Option K:=(eqs.find? (fun p=>p.1==t)).map (fun p=>p.2)
def Dt:Shape:=⟨[(6,.int .i64)],[(.slot 2,20000,.box 27 [.val dG]),(.slot 3,20001,.box 35 [.val fV]),(.slot 4,20002,.box 38 [.val ad9,.val ad9,.own (.row 40 bg),.val .str,.val ad9])],[],[]⟩
def Du:Shape:=⟨[(6,.int .i64)],[(.slot 2,20000,.box 27 [.val dG]),(.slot 3,20001,.box 40 [.val bg]),(.slot 4,20002,.box 35 [.val fV])],[],[]⟩
def Dv:Shape:=⟨[(6,.int .i64)],[(.slot 2,20000,.box 27 [.val dG]),(.slot 3,20001,.box 35 [.val fV]),(.slot 4,20002,.box 84 [.val di])],[],[]⟩
def Dx:Shape:=⟨[],[(.slot 2,20000,.box 27 [.val dG]),(.slot 3,20001,.box 40 [.val bg]),(.slot 6,20002,.box 40 [.val bg])],[(5,31000,(.row 40 bg))],[]⟩
def Dy:Shape:=⟨[(0,.sl bg),(5,.int .i64)],[(.slot 3,20000,.box 40 [.val bg])],[],[]⟩
def Dz:Shape:=⟨[(5,.int .i64)],[(.slot 2,20000,.box 27 [.val dG]),(.slot 3,20001,.box 27 [.val dG])],[],[]⟩
def DA:Shape:=⟨[(9,.int .i64)],[(.slot 2,20000,.box 27 [.val dG]),(.slot 3,20001,.box 27 [.val dG])],[],[]⟩
def DB:Shape:=⟨[(0,.str),(3,.int .i64)],[],[],[]⟩
def zi:Shape:=⟨[(6,.int .i64)],[(.slot 1,20000,.box 27 [.val dG])],[(3,31000,(.row 36 (.sl bg))),(4,31001,(.row 40 bg)),(5,31002,(.row 40 bg))],[]⟩
def zj:Shape:=⟨[(4,.int .i64),(5,.int .i64)],[],[(3,31000,(.row 3 ad9))],[]⟩
def DC:Shape:=⟨[(7,.int .i64)],[(.slot 2,20000,.box 30 [.val kX]),(.slot 3,20001,.box 61 [.val qN]),(.slot 4,20002,.box 30 [.own (.row 38 cP),.own (.row 84 di),.own (.row 42 cw)])],[],[]⟩
def DD:Shape:=⟨[(4,.int .i64)],[(.slot 1,20000,.box 27 [.val dG]),(.slot 2,20001,.box 27 [.own (.row 38 cP),.own (.row 84 di)]),(.slot 3,20002,.box 27 [.own (.row 38 cP),.own (.row 84 di)])],[],[]⟩
def DE:Shape:=⟨[(3,.int .i64)],[(.slot 1,20000,.box 61 [.val qN])],[],[]⟩
def DF:Shape:=⟨[(18,.sl sN),(19,.int .i64),(20,.int .i64)],[(.slot 4,20000,.box 30 [.own (.row 38 cP),.own (.row 84 di),.own (.row 42 cw)]),(.slot 6,20001,.box 128 [.own (.row 38 cP),.own (.row 84 di),.val (.sl cw)])],[],[]⟩
def vU:Shape:=⟨[(6,.bool),(7,.int .i64)],[(.slot 2,20000,.box 27 [.val dG]),(.slot 3,20001,.box 38 [.val cP]),(.slot 4,20002,.box 27 [.own (.row 38 cP),.own (.row 84 di)]),(.slot 5,20003,.box 27 [.own (.row 38 cP),.val (.sl di)])],[],[]⟩
def zk:Shape:=⟨[(8,.int .i64)],[(.slot 3,20000,.box 27 [.val dG]),(.slot 4,20001,.box 35 [.val fV]),(.slot 5,20002,.box 35 [.val fV]),(.slot 6,20003,.box 27 [.own (.row 38 cP),.own (.row 84 di)]),(.slot 7,20004,.box 27 [.own (.row 38 cP),.own (.row 84 di)])],[],[]⟩
def zm:Shape:=⟨[(9,.int .i64)],[(.slot 3,20000,.box 27 [.val dG]),(.slot 5,20001,.box 35 [.val fV]),(.slot 6,20002,.box 27 [.own (.row 38 cP),.own (.row 84 di)]),(.slot 7,20003,.box 27 [.own (.row 38 cP),.own (.row 84 di)])],[],[]⟩
def nh:Shape:=⟨[(12,.sl cw),(13,.int .i64)],[(.slot 4,20000,.box 30 [.own (.row 38 cP),.own (.row 84 di),.own (.row 42 cw)]),(.slot 8,20001,.box 40 [.val bg]),(.slot 9,20002,.box 40 [.val bg]),(.slot 10,20003,.box 40 [.val bg]),(.slot 11,20004,.box 27 [.val dG])],[],[]⟩
def sV:Shape:=⟨[(7,.bool),(8,.int .i64)],[(.slot 2,20000,.box 30 [.val kX]),(.slot 3,20001,.box 100 [.val sN]),(.slot 4,20002,.box 30 [.own (.row 38 cP),.own (.row 84 di),.own (.row 42 cw)]),(.slot 6,20003,.box 27 [.own (.row 38 cP),.own (.row 84 di)])],[],[]⟩
def sW:Shape:=⟨[(7,.bool),(9,.int .i64)],[(.slot 2,20000,.box 30 [.val kX]),(.slot 3,20001,.box 100 [.val sN]),(.slot 4,20002,.box 30 [.own (.row 38 cP),.own (.row 84 di),.own (.row 42 cw)]),(.slot 6,20003,.box 27 [.own (.row 38 cP),.own (.row 84 di)])],[],[]⟩
def DG:Shape:=⟨[(0,.sl cw),(1,.sl cw),(5,.int .i64)],[],[],[]⟩
def DH:Shape:=⟨[(5,.int .i64)],[(.slot 2,20000,.box 27 [.val dG]),(.slot 3,20001,.box 35 [.val fV])],[],[]⟩
def DI:Shape:=⟨[(4,.int .i64)],[(.slot 1,20000,.box 27 [.val dG])],[(3,31000,(.row 3 ad9))],[]⟩
def zn:Shape:=⟨[(5,.int .i64)],[(.slot 1,20000,.box 27 [.val dG])],[(3,31000,(.row 3 ad9))],[]⟩
def sX:Shape:=⟨[(5,.int .i64),(6,.int .i64)],[(.slot 1,20000,.box 27 [.val dG])],[(3,31000,(.row 3 ad9))],[]⟩
def DJ:Shape:=⟨[(0,.sl bg),(1,.sl bg),(5,.int .i64)],[],[],[]⟩
def DK:Shape:=⟨[(17,.sl sN),(18,.int .i64),(19,.int .i64)],[],[],[]⟩
def DL:Shape:=⟨[(4,.int .i64)],[(.slot 1,20000,.box 27 [.val dG])],[(3,31000,(.row 40 bg))],[]⟩
def DM:Shape:=⟨[(14,.int .i64),(15,.int .i64)],[(.slot 2,20000,.box 27 [.own (.row 38 cP),.own (.row 84 di)]),(.slot 3,20001,.box 27 [.own (.row 38 cP),.own (.row 84 di)])],[],[]⟩
def vW:Shape:=⟨[(6,.bool),(7,.int .i64)],[(.slot 2,20000,.box 27 [.val dG]),(.slot 3,20001,.box 84 [.val di]),(.slot 4,20002,.box 27 [.own (.row 38 cP),.own (.row 84 di)]),(.slot 5,20003,.box 27 [.val (.sl cP),.own (.row 84 di)])],[],[]⟩
def lV:Shape:=⟨[(0,.sl cw),(8,.bool),(9,.int .i64)],[(.slot 3,20000,.box 42 [.val cw])],[(7,31000,(.row 42 cw))],[]⟩
def zo:Shape:=⟨[(0,.sl bg),(3,.int .i64),(4,.int .i64)],[],[],[]⟩
def DN:Shape:=⟨[(0,.sl bg),(3,.int .i64),(6,.int .i64)],[],[(5,31000,(.row 40 bg))],[]⟩
def vX:Shape:=⟨[(6,.int .i64),(7,.int .i64)],[(.slot 1,20000,.box 27 [.val dG])],[],[]⟩
def zp:Shape:=⟨[(0,.str)],[],[(6,31000,.oT)],[]⟩
def ni:Shape:=⟨[(48,.int .i64),(49,.int .i64)],[(.slot 0,1000,.box 128 [.own (.row 38 cP),.own (.row 84 di),.val (.sl cw)]),(.slot 5,20001,.box 30 [.val kX]),(.slot 7,20002,.box 40 [.val bg])],[(9,31000,(.row 40 bg)),(47,31001,(.row 98 T4))],[]⟩
def Ir:Shape:=⟨[(5,.int .i64),(32,.int .i64),(33,.int .i64)],[(.slot 0,1000,.box 128 [.own (.row 38 cP),.own (.row 84 di),.val (.sl cw)]),(.slot 7,20001,.box 40 [.val bg]),(.slot 8,20002,.box 40 [.val bg])],[(31,31000,(.row 40 bg))],[]⟩
def zq:Shape:=⟨[(5,.int .i64),(47,.int .i64),(48,.int .i64)],[(.slot 0,1000,.box 128 [.own (.row 38 cP),.own (.row 84 di),.val (.sl cw)])],[(46,31000,(.row 40 bg))],[]⟩
def oJ:Shape:=⟨[(113,.int .i64)],[(.slot 0,1000,.box 128 [.own (.row 38 cP),.own (.row 84 di),.val (.sl cw)]),(.slot 8,20001,.box 40 [.val bg]),(.slot 9,20002,.box 40 [.val bg]),(.slot 10,20003,.box 40 [.val bg])],[],[]⟩
def DO:Shape:=⟨[(5,.int .i64)],[(.slot 2,20000,.box 30 [.val kX]),(.slot 3,20001,.box 40 [.val bg]),(.slot 4,20002,.box 40 [.val bg])],[],[]⟩
def zr:Shape:=⟨[(2,.sl bg),(8,.int .i64)],[(.slot 4,20000,.box 35 [.val fV]),(.slot 6,20001,.box 27 [.own (.row 38 cP),.own (.row 84 di)]),(.slot 7,20002,.box 27 [.own (.row 38 cP),.own (.row 84 di)])],[],[]⟩
def tW:Shape:=⟨[(0,.sl bg),(7,.int .i64),(9,.int .i64)],[(.slot 5,20000,.box 40 [.val bg])],[(8,31000,(.row 40 bg))],[]⟩
def xt:Shape:=⟨[(0,.sl cw),(6,.int .i64)],[(.slot 3,20000,.box 40 [.val bg]),(.slot 4,20001,.box 40 [.val bg])],[],[]⟩
def tX:Shape:=⟨[(0,.sl bg),(6,.int .i64)],[(.slot 3,20000,.box 40 [.val bg])],[(5,31000,(.row 40 bg))],[]⟩
def BP:Shape:=⟨[(7,.int .i64)],[(.slot 0,1000,.box 128 [.own (.row 38 cP),.own (.row 84 di),.val (.sl cw)]),(.slot 3,20001,.box 40 [.val bg]),(.slot 4,20002,.box 40 [.val bg]),(.slot 5,20003,.box 40 [.val bg])],[],[]⟩
def xu:Shape:=⟨[(12,.int .i64),(13,.int .i64)],[(.slot 0,1000,.box 128 [.own (.row 38 cP),.own (.row 84 di),.val (.sl cw)]),(.slot 3,20001,.box 40 [.val bg])],[],[]⟩
def xw:Shape:=⟨[(12,.int .i64),(13,.int .i64)],[(.slot 2,20000,.box 30 [.val kX]),(.slot 3,20001,.box 40 [.val bg]),(.slot 4,20002,.box 40 [.val bg])],[],[]⟩
def xx:Shape:=⟨[(0,.sl bg),(7,.int .i64),(8,.int .i64)],[(.slot 3,20000,.box 40 [.val bg])],[],[]⟩
def xy:Shape:=⟨[(0,.sl (.sl bg)),(3,.int .i64),(9,.sl (.sl bg)),(10,.int .i64),(11,.int .i64)],[],[],[]⟩
def xz:Shape:=⟨[(25,.sl (.sl bg)),(26,.int .i64),(27,.int .i64)],[],[(6,31000,(.row 40 bg))],[]⟩
def BQ:Shape:=⟨[(3,.int .i64),(6,.sl ad9),(7,.int .i64),(8,.int .i64)],[],[],[]⟩
def xC:Shape:=⟨[(9,.sl cP),(10,.int .i64),(11,.int .i64)],[(.slot 3,20000,.box 40 [.val bg]),(.slot 4,20001,.box 35 [.val fV])],[],[]⟩
def xD:Shape:=⟨[(8,.sl di),(9,.int .i64),(10,.int .i64)],[],[(3,31000,(.row 40 bg))],[]⟩
def tY:Shape:=⟨[(18,.sl cP),(19,.int .i64),(20,.int .i64)],[],[(3,31000,(.row 3 ad9)),(4,31001,(.map bg ad9))],[]⟩
def xF:Shape:=⟨[(5,.int .i64),(18,.sl cP),(19,.int .i64),(20,.int .i64),(30,.sl bg),(31,.int .i64),(32,.int .i64)],[],[(3,31000,(.row 3 ad9)),(4,31001,(.map bg ad9))],[]⟩
def qS:Shape:=⟨[(4,.mp bg ad9)],[],[(3,31000,(.row 3 ad9)),(42,31001,(.iter bg ad9))],[]⟩
def xG:Shape:=⟨[(61,.int .i64),(62,.int .i64)],[],[(3,31000,(.row 3 ad9)),(13,31001,(.row 3 ad9))],[]⟩
def xH:Shape:=⟨[(11,.sl cP),(12,.int .i64),(13,.int .i64)],[(.slot 3,20000,.box 40 [.val bg]),(.slot 4,20001,.box 40 [.val bg])],[],[]⟩
def tZ:Shape:=⟨[(1,.int .i64)],[],[(0,1000,(.row 3 ad9))],[]⟩
def js:Shape:=⟨[(0,.sl cP),(8,.int .i64),(9,.int .i64),(10,.int .i64)],[(.slot 4,20000,.box 35 [.val fV])],[],[(2,188,[])]⟩
def jt:Shape:=⟨[(0,.sl di),(8,.int .i64),(9,.int .i64),(10,.int .i64)],[(.slot 4,20000,.box 35 [.val fV])],[],[(2,198,[])]⟩
def kE:Shape:=⟨[(0,.sl bg),(6,.int .i64)],[(.slot 4,20000,.box 40 [.val bg]),(.slot 5,20001,.box 40 [.val bg])],[],[(1,73,[])]⟩
def nj:Shape:=⟨[(11,.sl cP),(12,.int .i64),(13,.int .i64)],[(.slot 5,20000,.box 35 [.val fV]),(.slot 6,20001,.box 38 [.val ad9,.val ad9,.own (.row 40 bg),.val .str,.val ad9])],[],[(1,135,[])]⟩
def ju:Shape:=⟨[(0,.sl cw),(8,.int .i64),(9,.int .i64),(10,.int .i64)],[(.slot 4,20000,.box 40 [.val bg])],[],[(2,219,[])]⟩
def kF:Shape:=⟨[(0,.sl cw),(7,.int .i64),(8,.int .i64)],[(.cap 1 0,1000,.box 40 [.val bg])],[],[(1,231,[1000])]⟩
def kG:Shape:=⟨[(5,.int .i64),(8,.sl cP),(9,.int .i64),(10,.int .i64)],[],[],[(1,206,[])]⟩
def xI:Shape:=⟨[(1,.sl qN),(5,.int .i64)],[(.slot 2,20000,.box 30 [.val kX]),(.slot 4,20001,.box 30 [.own (.row 38 cP),.own (.row 84 di),.own (.row 42 cw)])],[],[]⟩
def nk:Shape:=⟨[(13,.sl qN),(14,.int .i64),(15,.int .i64)],[(.slot 6,20000,.box 30 [.own (.row 38 cP),.own (.row 84 di),.own (.row 42 cw)]),(.slot 7,20001,.box 30 [.val kX])],[],[(2,36,[])]⟩
def uc:Shape:=⟨[(25,.sl di),(26,.int .i64),(27,.int .i64)],[(.slot 1,20000,.box 27 [.val dG])],[(5,31000,(.map fV ad9)),(6,31001,(.row 5 (.int .u8)))],[]⟩
def uf:Shape:=⟨[(48,.sl cP),(49,.int .i64),(50,.int .i64)],[],[(5,31000,(.map fV ad9)),(6,31001,(.row 5 (.int .u8)))],[]⟩
def xJ:Shape:=⟨[(48,.sl cP),(49,.int .i64),(50,.int .i64),(71,.sl bg),(72,.int .i64),(73,.int .i64)],[],[(5,31000,(.map fV ad9)),(6,31001,(.row 5 (.int .u8)))],[]⟩
def qT:Shape:=⟨[(0,.sl (.int .u8)),(1,.int .i64),(14,.int .i64)],[],[(5,31000,(.row 5 (.int .u8)))],[]⟩
def uh:Shape:=⟨[(0,.sl fV),(5,.sl fV),(6,.int .i64),(7,.int .i64)],[],[],[]⟩
def xK:Shape:=⟨[(12,.sl di),(13,.int .i64),(14,.int .i64)],[(.slot 1,20000,.box 27 [.val dG])],[(3,31000,(.map bg .bool))],[]⟩
def uj:Shape:=⟨[(28,.sl cP),(29,.int .i64),(30,.int .i64)],[],[(3,31000,(.map bg .bool))],[]⟩
def uk:Shape:=⟨[(28,.sl cP),(29,.int .i64),(30,.int .i64),(42,.sl bg),(43,.int .i64),(44,.int .i64)],[],[(3,31000,(.map bg .bool))],[]⟩
def xL:Shape:=⟨[(0,.sl bg),(1,.sl bg),(12,.int .i64),(13,.int .i64)],[],[],[]⟩
def nm:Shape:=⟨[(8,.sl cP),(9,.int .i64),(10,.int .i64)],[],[(5,31000,(.row 35 fV))],[(1,135,[])]⟩
def np:Shape:=⟨[(8,.sl di),(9,.int .i64),(10,.int .i64)],[],[(5,31000,(.row 35 fV))],[(1,137,[])]⟩
def fX:Shape:=⟨[(0,.sl cP),(7,.int .i64),(8,.int .i64)],[(.cap 1 0,1000,.box 169 [.val (.fn 140)])],[],[(1,180,[1000])]⟩
def fY:Shape:=⟨[(0,.sl cP),(7,.int .i64),(8,.int .i64)],[(.cap 1 0,1000,.box 169 [.val (.fn 142)])],[],[(1,180,[1000])]⟩
def fZ:Shape:=⟨[(0,.sl di),(7,.int .i64),(8,.int .i64)],[(.cap 1 0,1000,.box 169 [.val (.fn 140)])],[],[(1,182,[1000])]⟩
def gh:Shape:=⟨[(0,.sl di),(7,.int .i64),(8,.int .i64)],[(.cap 1 0,1000,.box 169 [.val (.fn 142)])],[],[(1,182,[1000])]⟩
def um:Shape:=⟨[(0,.sl qN),(1,.int .i64),(8,.int .i64)],[(.slot 6,20000,.box 94 [.val kX,.val ad9,.val (.sl qN)])],[(7,31000,(.row 61 qN))],[]⟩
def od:Shape:=⟨[(40,.sl cw),(41,.int .i64),(42,.int .i64)],[],[(8,31000,(.row 5 (.int .u8)))],[]⟩
def og:Shape:=⟨[(0,.sl (.int .u8)),(5,.int .i64),(6,.sl (.int .u8)),(11,.int .i64)],[(.slot 3,20000,.box 30 [.own (.row 38 cP),.own (.row 84 di),.own (.row 42 cw)]),(.slot 12,20001,.box 30 [.val (.sl cP),.val (.sl di),.own (.row 42 cw)])],[],[]⟩
def mf:Shape:=⟨[(0,.sl cw),(5,.sl cw),(6,.int .i64),(7,.int .i64)],[],[],[]⟩
def oi:Shape:=⟨[(0,.sl (.int .u8)),(5,.int .u64),(13,.sl (.int .u8)),(14,.int .i64),(15,.int .i64)],[],[],[]⟩
def qU:Shape:=⟨[(0,.sl (.int .u8)),(6,.int .i64)],[(.slot 2,20000,.box 27 [.own (.row 38 cP),.own (.row 84 di)]),(.slot 4,20001,.box 116 [.val (.sl (.int .u8)),.val .bool]),(.slot 5,20002,.box 27 [.own (.row 38 cP),.own (.row 84 di)])],[],[]⟩
def oo:Shape:=⟨[(0,.sl (.int .u8)),(7,.int .i64)],[(.slot 2,20000,.box 27 [.own (.row 38 cP),.own (.row 84 di)]),(.slot 4,20001,.box 116 [.val (.sl (.int .u8)),.val .bool]),(.slot 5,20002,.box 27 [.own (.row 38 cP),.own (.row 84 di)])],[],[]⟩
def qV:Shape:=⟨[(0,.sl (.int .u8)),(7,.int .i64),(49,.bool),(50,.bool),(87,.sl (.int .u8)),(88,.int .i64),(89,.int .i64)],[(.slot 2,20000,.box 27 [.own (.row 38 cP),.own (.row 84 di)]),(.slot 4,20001,.box 116 [.val (.sl (.int .u8)),.val .bool]),(.slot 5,20002,.box 27 [.own (.row 38 cP),.own (.row 84 di)]),(.slot 9,20003,.box 38 [.val ad9,.val ad9,.own (.row 40 bg),.val .str,.val ad9])],[],[]⟩
def oq:Shape:=⟨[(0,.sl (.int .u8)),(19,.sl (.int .u8)),(20,.int .i64),(21,.int .i64)],[(.slot 2,20000,.box 35 [.val fV]),(.slot 5,20001,.box 35 [.val fV])],[],[]⟩
def M7:Shape:=⟨[],[],[(7,0,(.row 61 qN))],[]⟩
def ans:List (Nat×List (Nat×Shape)):=[(87,[(2,Dt)]),(174,[(2,Du)]),(123,[(2,Dv)]),(210,[(6,Dx)]),(170,[(2,Dy)]),(37,[(4,Dz),(12,DA)]),(122,[(2,DB)]),(185,[(5,zi)]),(186,[(4,zj)]),(41,[(5,DC)]),(12,[(3,DD)]),(65,[(4,DE)]),(64,[(3,DF)]),(88,[(4,vU)]),(89,[(3,zk),(8,zm)]),(93,[(18,nh)]),(94,[(4,sV),(12,sW)]),(38,[(4,DG)]),(227,[(2,DH)]),(211,[(3,DI),(7,zn),(10,sX)]),(63,[(4,DJ)]),(59,[(4,DK)]),(209,[(3,DL)]),(83,[(3,DM)]),(125,[(4,vW)]),(127,[(7,lV)]),(132,[(3,zo),(9,DN)]),(149,[(3,vX)]),(141,[(2,zp)]),(114,[(8,ni)]),(115,[(6,Ir),(11,zq)]),(117,[(19,oJ)]),(169,[(2,DO)]),(171,[(3,zr)]),(172,[(6,tW)]),(173,[(2,xt)]),(176,[(3,tX)]),(161,[(3,BP)]),(162,[(2,xu)]),(193,[(2,xw)]),(195,[(2,xx)]),(202,[(3,xy),(11,xz)]),(101,[(3,BQ)]),(216,[(2,xC)]),(223,[(3,xD)]),(236,[(4,tY),(8,xF),(14,qS),(21,xG)]),(240,[(2,xH)]),(242,[(1,tZ)]),(189187,[(3,js)]),(199197,[(3,jt)]),(74201,[(5,kE)]),(136215,[(2,nj)]),(220218,[(3,ju)]),(232230,[(2,kF)]),(207205,[(3,kG)]),(10,[(2,xI)]),(37035,[(3,nk)]),(42,[(7,uc),(14,uf),(19,xJ)]),(49,[(4,qT)]),(133,[(2,uh)]),(138,[(3,xK),(9,uj),(14,uk)]),(178,[(4,xL)]),(136134,[(3,nm)]),(138136,[(3,np)]),(14100181203,[(2,fX)]),(14300181203,[(2,fY)]),(14100183204,[(2,fZ)]),(14300183204,[(2,gh)]),(8,[(7,um),(500013,M7)]),(22,[(8,od)]),(24,[(8,og)]),(48,[(2,mf)]),(53,[(5,oi)]),(54,[(4,qU),(8,oo),(15,qV)]),(79,[(5,oq)])]
def An(f:FuncId)(key:Nat):Option Shape:=(ans.find? (fun p=>p.1==f)).bind fun p=>(p.2.find? (fun q=>q.1==key)).map (fun q=>q.2)
abbrev JT(g:aN):=(sh:Shape)→List Item→sh.T→Option g.B
noncomputable def bF(f:FuncId)(g:aN)(fn:Func)(F:FT)(J:JT g)(x:g.A):Option g.B:=aF Tryz.prog Eqs Sg F fn.ntmps (An f) J (sy Tryz.prog g fn) fuel [.code (fn.body.getD .skip)] (entry g x)
noncomputable def eC(f j:Nat)(g:aN)(fn:Func)(sh:Shape)(F:FT)(J:JT g)(x:sh.T):Option g.B:=aF Tryz.prog Eqs Sg F fn.ntmps (An f) J (sy Tryz.prog g fn) fuel (round (aK Tryz.prog (f%1000) j)) (aw sh x)
end Go.Vs
namespace Go.Vs
open Go.Proofs
variable {G:(f:FuncId)→(g:aN)→Option (g.A→Option g.B)}
noncomputable abbrev FX(G:(f:FuncId)→(g:aN)→Option (g.A→Option g.B)):FT:=Fix Tryz.prog Eqs Sg An G
noncomputable abbrev LX(G:(f:FuncId)→(g:aN)→Option (g.A→Option g.B))(f:FuncId)(g:aN)(fn:Func):JT g:=Lp Tryz.prog Eqs Sg An G f g fn
abbrev HG(G:(f:FuncId)→(g:aN)→Option (g.A→Option g.B)):Prop:=∀f g,(f==207 || f==208)=false→G f g=none
theorem av{f:FuncId}{g:aN}{fn:Func}{x:g.A}{y:g.B}{z:Option g.B}(hG:G f g=none)(e:bF f g fn (FX G) (LX G f g fn) x=z)(h:z=some y) (hb:body Tryz.prog (f%1000)=some (fn,fn.body.getD .skip):=by kernel_rfl) (hc:(decide (g.ps.length≤fn.ntmps)&&decide (g.bs.length≤8))=true:=by kernel_rfl):FX G f g x=some y:=OE hG hb hc (e.trans h)
theorem ar{f j:Nat}{g:aN}{fn:Func}{sh:Shape}{x:sh.T}{y:g.B}{z:Option g.B}(e:eC f j g fn sh (FX G) (LX G f g fn) x=z)(h:z=some y) (hs:(match aK Tryz.prog (f%1000) j with | .inLoop _::_=>true|_=>false)=true:=by kernel_rfl):LX G f g fn sh (aK Tryz.prog (f%1000) j) x=some y:=by
 have h:=e.trans h;unfold eC at h;generalize aK Tryz.prog (f%1000) j=s at hs h ⊢
 split at hs
 ·exact T3 h
 ·cases hs
abbrev aaa:=(Int×Unit)
abbrev aab:=(((List ai)×((List ag)×Unit))×(((List ai)×((List ag)×Unit))×Unit))
abbrev aaf:=(ab×Unit)
abbrev aak:=(Int×aaa)
abbrev aal:=(ID×Unit)
abbrev aam:=(ak×Unit)
abbrev aan:=((List ab)×Unit)
abbrev aao:=(aaf×Unit)
abbrev aap:=((List Int)×Unit)
abbrev aaz:=(Unit×Unit)
abbrev aaJ:=(aW×Unit)
abbrev aaK:=(StateT×Unit)
abbrev aaM:=(aam×Unit)
abbrev aaN:=(aal×Unit)
abbrev abf:=(aal×((Int×(Int×((List ab)×(ByteArray×aaa))))×Unit))
abbrev abg:=((List ab)×aaa)
abbrev abi:=((List ab)×aak)
abbrev abj:=((List ai)×aak)
end Go.Vs
