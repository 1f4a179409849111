/- The value semantics is sound -/
import Derived.Test.YtoleelddkocpkaaGreatEngineC
import Derived.Test.YtoleelddkocpkaaGreatProg
import Derived.Scope
import Derived.KernelRfl
set_option linter.unusedSimpArgs false
set_option linter.unusedVariables false
namespace Go.Vs
variable {P:Program} {Eqs:TypeId→Option K} {Sg:FuncId→Option aO} {F:(f:FuncId)→(g:aO)→g.A→Option g.B} {R:Type}
variable {Z Z' Z0:Nat→Prop} {ψ ψ' ψ0:Nat→Value} {h h':Hp} {w w' w0:World} {B0:Nat} {O N:Nat→Prop}
def gj(st:St):(l:List (Nat×Nat×OK))→NX (l.map (·.2.2))→List BP
 |[],_=>[]
 |(s,id,ok)::r,x=>(id,(ri (look st.tmps s)).head?,.own ok x.1)::gj st r x.2
theorem yH(st:St):∀(l:List (Nat×Nat×OK)) (x:NX (l.map (·.2.2))),eL (gj st l x)=tH l x
 |[],_=>rfl
 |(s,id,ok)::r,x=>by simp only[gj,tH];rw[←yH st r x.2];rfl
theorem wA(st:St):∀(l:List (Nat×Nat×OK)) (x:NX (l.map (·.2.2))),(gj st l x).map (·.1)=l.map (·.2.1)
 |[],_=>rfl
 |(s,id,ok)::r,x=>by simp only[gj,List.map_cons];rw[wA st r x.2]
theorem BZ(st:St):∀(l:List (Nat×Nat×OK)) (x:NX (l.map (·.2.2))),(gj st l x).filterMap (·.2.1)=l.flatMap fun p=>ri (look st.tmps p.1)
 |[],_=>rfl
 |(s,id,ok)::r,x=>by simp only[gj,List.flatMap_cons];rw[eQ,BZ st r x.2];simp only[];rw[Az]
theorem tR{st:St}{s id:Nat}{ok:OK}{r:List (Nat×Nat×OK)}{x:NX (((s,id,ok)::r).map (·.2.2))}(hd:rl st ((s,id,ok)::r)=some x):fa st.heap ok (look st.tmps s)=some x.1∧rl st r=some x.2:=by
 have e:rl st ((s,id,ok)::r)=(match fa st.heap ok (look st.tmps s),rl st r with
  |some x,some y=>some ((x,y):ok.T×NX (r.map (·.2.2)))
  |_,_=>none):=rfl
 grind
theorem Er{hd:Hp}{st:St}:∀(l:List (Nat×Nat×OK)) (x:NX (l.map (·.2.2))),rl st l=some x→(∀s∈(l.flatMap fun p=>ri (look st.tmps p.1)),hd s=st.heap.get s) → ∀e∈gj st l x,yu Z ψ hd w h' ψ' e
 |[],_,_,_,e,he=>by simp[gj]at he
 |(s,id,ok)::r,x,hx,hk,e,he=>by
  obtain⟨h1,h2⟩:=tR hx;simp only[List.flatMap_cons]at hk;simp only[gj]at he;rcases abq.1 he with rfl|he
  ·exact P5 h1 fun s hs=>hk s (abr _ hs)
  ·exact Er r x.2 h2 (fun s hs=>hk s (abw _ hs)) e he
theorem Ly{st:St}{s:Nat}{k:K}{r:List (Nat×K)}{x:KR (((s,k)::r).map (·.2))}(hd:xd st ((s,k)::r)=some x):iQ k st.heap (look st.tmps s)=some x.1∧xd st r=some x.2:=by
 have e:xd st ((s,k)::r)=(match iQ k st.heap (look st.tmps s),xd st r with
  |some x,some y=>some ((x,y):k.T×KR (r.map (·.2)))
  |_,_=>none):=rfl
 grind
theorem fK{T:List (Nat×AV)}{n:Nat}{a:Act}(je:∀p∈T,aD Z ψ h w p.2 (a.tmps.getD p.1 undef))(hs:a.tmps.size=n)(hd:a.defers=[]):dm Z ψ h w n (look T) a:=by
 refine⟨fun d=>?_,hs,hd⟩
 induction T with
 |nil=>simp only[look,aD]
 |cons p r ih =>
  grind [look,List.mem_cons_self,List.mem_cons_of_mem]
section
variable {st:St} {n:Nat} {a:Act}
theorem yI(g:Good Z ψ st.heap.get w B0 O)(t:dm Z ψ st.heap.get w n (look st.tmps) a)(hz:∀b,Z b→Z' b):∀(l:List (Nat×K)) (x:KR (l.map (·.2))),xd st l=some x →(∀id b,AV.bO id∈(l.flatMap fun p=>(look st.tmps p.1).cells)→st.heap.get id≠none→ob (ψ id)=some b→Z' b)→∀p∈tG l x,aD Z' ψ' h' w p.2 (a.tmps.getD p.1 undef)
 |[],_,_,_,p,hp=>by simp[tG]at hp
 |(s,k)::r,x,hx,hf,p,hp=>by
  obtain⟨h1,h2⟩:=Ly hx;simp only[List.flatMap_cons]at hf;simp only[tG]at hp;rcases abq.1 hp with rfl|hp
  ·exact uZ g hz (fun id b bM=>hf id b (abr _ bM)) h1 (t.rep s)
  ·exact yI g t hz r x.2 h2 (fun id b bM=>hf id b (abw _ bM)) p hp
theorem wB(t:dm Z ψ st.heap.get w n (look st.tmps) a):∀(l:List (Src×Nat×BK)) (ids:List Nat),Jc st l=some ids→(∀i∈ids,st.heap.get i≠none) →(∀p∈ids.zip (l.map (·.2.1)),h' p.2≠none→ψ' p.2=ψ p.1)→∀p∈kN l,aD Z' ψ' h' w p.2 (a.tmps.getD p.1 undef)
 |[],_,_,_,_,p,hp=>by simp[kN]at hp
 |(src,qb,b)::r,ids,hx,hi,kz,p,hp=>by
  simp only[Jc]at hx
  split at hx
  ·rename_i i is h1 h2
   cases hx
   simp only[List.map_cons,List.zip_cons_cons]at kz;have ih:=wB t r is h2 (fun j hj=>hi j (abg _ hj)) (fun p hp=>kz p (abg _ hp)) p
   cases src with
   |slot s =>
    simp only[kN]at hp;rcases abq.1 hp with rfl|hp
    ·simp only[aaY]at h1;obtain⟨sz,h3⟩:=rC h1;have h4:=t.rep s
     grind [CV,List.mem_cons_self]
    ·exact ih hp
   |cap s j=>grind [kN]
  ·cases hx
theorem LA{hh:Heap}{ids:List (Nat×Nat)}(hi:∀p∈ids,hh.get p.1≠none)(kz:∀p∈ids,h' p.2≠none→ψ' p.2=ψ p.1):∀(cap:List AV) (is Jd:List Nat) (vs:List Value),kL cap=some is → is.map (fun i=>(ids.find? (·.1==i)).map (·.2))=Jd.map some→az Z ψ hh.get w cap vs→az Z' ψ' h' w (Jd.map fun i=>.ref i 0 0 0) vs
 |[],is,Jd,vs,h1,h2,hr=>by simp_all [kL,List.map_nil,az]
 |v::cap,is,Jd,vs,h1,h2,hr=>by
  simp only[kL]at h1
  split at h1
  ·rename_i i is' h3 h4
   cases h1
   cases Jd with
   |nil=>simp at h2
   |cons c r =>
    simp only[List.map_cons,List.cons.injEq]at h2;obtain⟨h5,h6⟩:=h2;simp only[List.map_cons,az]at hr ⊢;obtain⟨u,us,rfl,h7,h8⟩:=hr;obtain⟨sz,rfl⟩:=rC h3
    cases hf:ids.find? (·.1==i) with
    |none=>simp_all
    |some p =>
     rw[hf]at h5;have hm:=ado hf;have he:=aeG hf;simp only[Option.map_some,Option.some.injEq]at h5;have NC:p.1=i:=by simpa using he
     refine⟨u,us,rfl,CV h7 (by grind) (fun hn=>?_),LA hi kz cap is' r us h4 h6 h8⟩
     grind
  ·cases h1
theorem B2(t:dm Z ψ st.heap.get w n (look st.tmps) a){ids:List (Nat×Nat)}(hi:∀p∈ids,st.heap.get p.1≠none)(kz:∀p∈ids,h' p.2≠none→ψ' p.2=ψ p.1):∀(l:List (Nat×FuncId×List Nat)),PZ st ids l=true → ∀p∈CN l,aD Z' ψ' h' w p.2 (a.tmps.getD p.1 undef)
 |[],_,p,hp=>by simp[CN]at hp
 |(s,f,Jd)::r,hx,p,hp=>by
  simp only[PZ,Bool.and_eq_true]at hx;simp only[CN,List.map_cons]at hp;rcases abq.1 hp with rfl|hp
  ·have h1:=hx.1
   split at h1
   ·rename_i f' cap hl;simp only[Bool.and_eq_true,decide_eq_true_eq]at h1;obtain⟨rfl,h2⟩:=h1
    split at h2
    ·rename_i is hri;have h4:=t.rep s;rw[hl]at h4;simp only[aD]at h4 ⊢;obtain⟨vs,h5,h6⟩:=h4;exact⟨vs,h5,LA hi kz cap is Jd _ hri (of_decide_eq_true h2) h6⟩
    ·cases h2
   ·cases h1
  ·exact B2 t hi kz r hx.2 p hp
theorem yJ(t:dm Z ψ st.heap.get w n (look st.tmps) a):∀(l:List (Nat×Nat×OK)) (x:NX (l.map (·.2.2))),rl st l=some x→(∀e∈gj st l x,h' e.1≠none→ψ' e.1=kR ψ e.2.1) → ∀p∈(l.map fun p=>(p.1,AV.bO p.2.1)),aD Z' ψ' h' w p.2 (a.tmps.getD p.1 undef)
 |[],_,_,_,p,hp=>by simp at hp
 |(s,id,ok)::r,x,hx,kz,p,hp=>by
  obtain⟨h1,h2⟩:=tR hx;simp only[gj]at kz;simp only[List.map_cons]at hp;rcases abq.1 hp with rfl|hp
  ·exact Jn h1 (t.rep s) (kz _ acD)
  ·exact yJ t r x.2 h2 (fun e he=>kz e (abg _ he)) p hp
end
theorem yK{st:St}{m:Nat}:∀(l:List (Nat×Nat×OK)) (x:NX (l.map (·.2.2))),qd st m l=true→∃o,(m,some m,o)∈gj st l x
 |[],_,h=>by cases h
 |(s,id,ok)::r,x,h=>by
  simp only[qd,Bool.or_eq_true,Bool.and_eq_true,beq_iff_eq]at h;rcases h with⟨rfl,h⟩|h
  ·grind [id,gj,ri,List.head?_cons,List.mem_cons_self]
  ·obtain⟨o,ho⟩:=yK r x.2 h;exact⟨o,abg _ ho⟩
theorem wC{st:St}{m:Nat}:∀(l:List (Nat×Nat×OK)) (x:NX (l.map (·.2.2))),rl st l=some x→qd st m l=true→st.heap.get m≠none
 |[],_,_,h=>by cases h
 |(s,id,ok)::r,x,hx,h=>by
  obtain⟨h1,h2⟩:=tR hx;simp only[qd,Bool.or_eq_true,Bool.and_eq_true,beq_iff_eq]at h;rcases h with⟨rfl,h⟩|h
  ·split at h
   ·rename_i i hl;have hi:i=id:=by simpa using h
    subst hi;rw[hl]at h1;simp only[fa]at h1
    split at h1
    ·rename_i hg;rw[hg];simp
    ·cases h1
   ·cases h
  ·exact wC r x.2 h2 h
theorem Qf{mh:List AV}{hh:Heap}{b:Nat}(hb:tj Z ψ hh.get mh b):Z b∨Own ψ hh.get b:=hb.imp (fun h=>h) fun⟨i,_,h2,h3⟩=>⟨i,h2,h3⟩
theorem iB{sh:Shape}{st:St}{x:sh.T}{n:Nat}{a:Act}(hx:db sh st=some x)(k:Ok Z0 w0 O ψ0 Z ψ st.heap.get w)(t:dm Z ψ st.heap.get w n (look st.tmps) a) :
  ∃Z' ψ',Ok Z0 w0 O ψ0 Z' ψ' (aA sh x).heap.get w∧dm Z' ψ' (aA sh x).heap.get w n (look (aA sh x).tmps) a:=by
 unfold db at hx
 split at hx
 ·cases hx
 rename_i ids s5
 split at hx
 ·rename_i xv xb xr hv hb hr GN
  cases hx
  simp only[Bool.and_eq_true]at GN;obtain⟨LB,Jt,ak5,aqG⟩:=GN;obtain⟨hlen,HP⟩:=j9 _ _ _ hb;have hl':(sh.boxes.map (·.2.1)).length=sh.bs.length:=by simp[Shape.bs]
  let L:List BP:=cV sh.bs st.heap ids (sh.boxes.map (·.2.1)) 9000 xb++gj st sh.rows xr
  have eH:eL L=(aA sh (xv,xb,xr)).heap:=by show eL (_++_)=_;rw[oP,j8 _ _ _ _ _ _ hb hl',yH];rfl
  have eN:L.map (·.1)=uQ sh:=by show(_++_:List BP).map _=_;rw[List.map_append,jg _ _ _ _ _ _ hb hl',wA];rfl
  have eS:L.filterMap (·.2.1)=KV st sh ids:=by show(_++_:List BP).filterMap _=_;rw[List.filterMap_append,lG _ _ _ _ _ _ hb hl',BZ];rfl
  have hn:cw (L.map (·.1))=true:=by simp_all
  have kz:=CU (ψ:=ψ) hn;have hz:∀b,Z b→tj Z ψ st.heap.get (CM st sh ids) b:=fun b hb=>.inl hb;have P7:=(vd LB).2 st.heap;have g':Good (tj Z ψ st.heap.get (CM st sh ids)) (fJ ψ L) (eL L).get w w0.heap.size O:=by
   refine AA k.du LB hn eS fun e he=>?_;rcases abY.1 he with he|he
   ·exact nH k.du hz sh.bs ids _ 9000 xb hb (fun id b bM h1 h2=>.inr ⟨id,abw _ bM,h1,h2⟩) (fun s hs=>P7 s (abr _ hs)) (fun e he=>kz e (abr _ he)) e he
   ·exact Er sh.rows xr hr (fun s hs=>P7 s (abw _ hs)) e he
  have acT:∀p∈ids.zip (sh.boxes.map (·.2.1)),(eL L).get p.2≠none→fJ ψ L p.2=ψ p.1:=fun p hp bA=>by obtain⟨o,ho⟩:=lH sh.bs ids (sh.boxes.map (·.2.1)) 9000 xb (hh:=st.heap) hlen p hp;exact kz (p.2,some p.1,o) (abr _ ho) bA
  have KH:∀p∈ids.zip (sh.boxes.map (·.2.1)),st.heap.get p.1≠none:=fun p hp=>HP _ (List.of_mem_zip hp).1;refine⟨tj Z ψ st.heap.get (CM st sh ids),fJ ψ L,?_,?_⟩
  ·rw[←eH];refine⟨g',fun b hb=>.inl (k.g9 b hb),fun b hb=>?_,k.os,k.tape,k.output,k.size,k.block,fun i hi bA=>?_⟩
   ·rcases Qf hb with h1|⟨id,h1,h2⟩
    ·exact k.fq b h1
    ·exact .inr (k.du.live id b h1 h2).2.symm
   ·obtain⟨o,ho⟩:=abP.1 bA;obtain⟨s,hm⟩:=qj ho;have kA:i∈uQ sh:=by grind
    have h1:=ac2.1 ak5 i kA;simp only[Bool.or_eq_true,decide_eq_true_eq]at h1;rcases h1 with(h1|h1)|h1
    ·omega
    ·obtain⟨p,hp,he⟩:=List.any_eq_true.1 h1;simp only[Bool.and_eq_true,beq_iff_eq]at he;have h2:=acT p hp (by simp_all);rw[he.1,he.2]at h2;rw[h2];exact k.fix i hi (by grind)
    ·obtain⟨o',mC⟩:=yK sh.rows xr h1;have h2:fJ ψ L i=ψ i:=kz (i,some i,o') (abw _ mC) bA;rw[h2];exact k.fix i hi (wC sh.rows xr hr h1)
  ·rw[←eH];refine fK (fun p hp=>?_) t.size t.defers;simp only[aA]at hp;rcases abY.1 hp with hp|hp
   ·exact yI k.du t hz sh.Cu xv hv (fun id b bM h1 h2=>.inr ⟨id,abr _ bM,h1,h2⟩) p hp
   ·rcases abY.1 hp with hp|hp
    ·grind [wB]
    ·rcases abY.1 hp with hp|hp
     ·grind [B2]
     ·exact yJ t sh.rows xr hr (fun e he=>kz e (abw _ he)) p hp
 ·cases hx
end Go.Vs
namespace Go.Vs
variable {P:Program} {Eqs:TypeId→Option K} {Sg:FuncId→Option aO} {F:(f:FuncId)→(g:aO)→g.A→Option g.B} {R:Type}
variable {Z Z' Z0:Nat→Prop} {ψ ψ' ψ0:Nat→Value} {h h':Hp} {w w' w0:World} {B0:Nat} {O N:Nat→Prop}
def Reach(P:Program)(b:Frame)(cs:List Frame)(xu:Act→World→Prop)(m:Machine):Prop:=∃a' w' todo,xu a' w'∧Steps P m (lone { b.at a' todo with mode:=.returning } cs w')
theorem Reach.head{b:Frame}{cs:List Frame}{xu:Act→World→Prop}{m m':Machine}(h:step P m=.next m')(r:Reach P b cs xu m'):Reach P b cs xu m:=by obtain⟨a,w,todo,h1,h2⟩:=r;exact⟨a,w,todo,h1,.head h h2⟩
theorem Reach.steps{b:Frame}{cs:List Frame}{xu:Act→World→Prop}{m m':Machine}(h:Steps P m m')(r:Reach P b cs xu m'):Reach P b cs xu m:=by obtain⟨a,w,todo,h1,h2⟩:=r;exact⟨a,w,todo,h1,h.trans h2⟩
mutual
theorem LC{p:Nat→Prop}(hp:∀i,p i):∀v:AV,aM p v
 |.ref id _ _ _=>by simp only[aM];exact hp id
 |.bO id=>by simp only[aM];exact hp id
 |.fn _ cap=>by simp only[aM];exact vj hp cap
 |.agg cs=>by simp only[aM];exact vj hp cs
 |.pC vs=>by simp only[aM];exact vj hp vs
 |.no=>by simp only[aM]
 |.bool _=>by simp only[aM]
 |.int _ _=>by simp only[aM]
 |.str _=>by simp only[aM]
 |.mA=>by simp only[aM]
 |.gq=>by simp only[aM]
 |.fp _ _ _=>by simp only[aM]
 |.sl _ _ _=>by simp only[aM]
 |.mp _ _ _=>by simp only[aM]
theorem vj{p:Nat→Prop}(hp:∀i,p i):∀l:List AV,aF p l
 |[]=>by simp only[aF]
 |v::r=>by simp only[aF];exact⟨LC hp v,vj hp r⟩
end
theorem Zw(s:Nat){n:Nat}{a:Act}{st:St}(k:Ok Z0 w0 O ψ0 Z ψ st.heap.get w)(t:dm Z ψ st.heap.get w n (look st.tmps) a):∃Z',Ok Z0 w0 O ψ0 Z' ψ (Uh s st).heap.get w∧dm Z' ψ (Uh s st).heap.get w n (look (Uh s st).tmps) a:=by
 unfold Uh
 split
 ·rename_i m hl
  split
  ·rename_i ty kk xs hg;have g:=k.du;obtain⟨vs,SH,Ax⟩:=g.row m (.row ty kk) xs hg;have hs:∀i o,(st.heap.del m).get i=some o→st.heap.get i=some o:=fun i o hi=>by simp_all [uW,eI]
   have gg:=g.freeze (Z':=fun b=>Z b∨ob (ψ m)=some b) (h':=(st.heap.del m).get) hs (fun b hb=>.inl hb) (fun b hb=>hb.imp (fun h=>h) (fun hb=>⟨m,by rw[hg];simp,by rw[uW,bg],hb⟩));have n1:Next Z ψ st.heap.get w w0.heap.size O (fun _=>False) (fun b=>Z b∨ob (ψ m)=some b) ψ (st.heap.del m).get w:=⟨fun b hb=>.inl hb,fun b hb=>hb.imp (fun h=>h) (fun hb=>.inl ⟨m,by rw[hg];simp,hb⟩),dg.refl _ _ _,fun i hi=>by obtain⟨o,ho⟩:=abP.1 hi;simp_all,gg⟩;refine⟨_,k.next (fun id h=>h.elim) n1,⟨fun d=>?_,t.size,t.defers⟩⟩;rw[vg _ rfl];have hr:=t.rep d;by_cases hv:look st.tmps d=.bO m
   ·rw[hv]at hr ⊢;simp only[aD]at hr;have hu:=hr.2 (by rw[hg];simp);simp only[Ct,if_true,aD]
    grind [yh]
   ·have hf:Ct m (.sl false kk xs) (look st.tmps d)=look st.tmps d:=by
     unfold Ct
     grind
    rw[hf];exact n1.rep g (LC (fun _ h=>h) _) hr
  grind
 grind
theorem Vd{n:Nat}{a:Act}(o:Option Shape){st:St}(k:Ok Z0 w0 O ψ0 Z ψ st.heap.get w)(t:dm Z ψ st.heap.get w n (look st.tmps) a):∃Z',Ok Z0 w0 O ψ0 Z' ψ (KW o st).heap.get w∧dm Z' ψ (KW o st).heap.get w n (look (KW o st).tmps) a:=by
 unfold KW
 split
 ·rename_i sh;generalize sh.rows=l
  induction l generalizing Z st with
  |nil=>grind
  |cons p r ih =>obtain⟨Z1,k1,t1⟩:=Zw p.1 k t;exact ih k1 t1
 grind
theorem tS(V:Env P Eqs Sg F)(hm:P.follows .mixedOrders=true){n:Nat}{ann:Nat→Option Shape}{J:(sh:Shape)→List Item→sh.T→Option R}{ret:St→Option R}{r:R}{b:Frame}{cs:List Frame}{xu:Act→World→Prop} (hJ:∀sh c k x Z ψ a w,J sh (.inLoop c::k) x=some r→Ok Z0 w0 O ψ0 Z ψ (aA sh x).heap.get w→dm Z ψ (aA sh x).heap.get w n (look (aA sh x).tmps) a→Reach P b cs xu (lone (b.at a (.code c::.inLoop c::k)) cs w)) (vS:∀st Z ψ a w,ret st=some r→Ok Z0 w0 O ψ0 Z ψ st.heap.get w→dm Z ψ st.heap.get w n (look st.tmps) a→xu a w) :
  ∀(fu:Nat) (items:List Item) (st:St) (Z:Nat→Prop) (ψ:Nat→Value) (a:Act) (w:World),aI P Eqs Sg F n ann J ret fu items st=some r→Ok Z0 w0 O ψ0 Z ψ st.heap.get w→dm Z ψ st.heap.get w n (look st.tmps) a → Reach P b cs xu (lone (b.at a items) cs w)
 |0,items,st,Z,ψ,a,w,hx,k,t=>by
  grind [aI]
 |fu+1,[],st,Z,ψ,a,w,hx,k,t=>⟨a,w,[],vS st Z ψ a w (by grind [aI]) k t,.one step_end⟩
 |fu+1,it::T6,st,Z,ψ,a,w,hx,k,t=>by
  have ih:=tS V hm (ann:=ann) hJ vS fu;have loop:∀c,(match ann (uR c) with
    |none=>none
    |some sh=>match db sh st with
     |some x=>J sh (.inLoop c::T6) x
     |none=>none)=some r→Reach P b cs xu (lone (b.at a (.code c::.inLoop c::T6)) cs w):=fun c hx=>by
   grind [iB]
  cases it with
  |inBlock id=>exact .head step_inBlock (ih T6 st Z ψ a w (by grind [aI]) k t)
  |inScope c=>exact .head step_inScope (ih T6 st Z ψ a w (by grind [aI]) k t)
  |inLoop c=>exact .head step_inLoop (loop c (by grind [aI]))
  |code c =>
   cases c with
   |skip=>exact .head step_skip (ih T6 st Z ψ a w (by grind [aI]) k t)
   |label l=>exact .head step_label (ih T6 st Z ψ a w (by grind [aI]) k t)
   |seq x y=>exact .head step_seq (ih _ st Z ψ a w (by grind [aI]) k t)
   |cond c x y =>
    simp only[aI]at hx
    split at hx
    ·rename_i tt ht;have h1:=tQ t c;rw[ht]at h1;simp only[aD]at h1
     cases tt with
     |true=>exact .head (step_cond h1) (ih _ st Z ψ a w hx k t)
     |false=>exact .head (step_cond h1) (ih _ st Z ψ a w hx k t)
    ·cases hx
   |scope c=>exact .head step_scope (ih _ st Z ψ a w (by grind [aI]) k t)
   |block id c=>exact .head step_block (ih _ st Z ψ a w (by grind [aI]) k t)
   |loop c =>
    simp only[aI]at hx
    cases fu with
    |zero=>grind [aI]
    |succ fu=>exact .head step_loop (loop c (by grind [aI]))
   |exit id =>
    simp only[aI]at hx
    split at hx
    ·rename_i k' hk;exact .head (step_exit hk) (ih _ st Z ψ a w hx k t)
    ·cases hx
   |ret=>exact⟨a,w,_,vS st Z ψ a w (by grind [aI]) k t,.one step_ret⟩
   |region id ops draw =>simp only[aI]at hx;obtain⟨Zf,k,t⟩:=Vd (ann (500000+id)) k t;have hw:=JD V hm (Q:=fun e a w=>e=.normal∧∃fB Z ψ,aI P Eqs Sg F n ann J ret fu T6 fB=some r∧Ok Z0 w0 O ψ0 Z ψ fB.heap.get w∧dm Z ψ fB.heap.get w n (look fB.tmps) a) hx k t (fun fB Z ψ a w h1 h2 h3=>⟨rfl,fB,Z,ψ,h1,h2,h3⟩);obtain⟨e,a',w',⟨rfl,fB,Z',ψ',h1,h2,h3⟩,UM⟩:=hw b T6 cs;exact .steps UM (ih T6 fB Z' ψ' a' w' h1 h2 h3)
   |_=>grind [aI]
  |_=>grind [aI]
theorem tT{hh:Heap}{n:Nat}{s:List (Nat×AV)}{a:Act}(g:Good Z ψ hh.get w B0 O)(t:dm Z ψ hh.get w n (look s) a):∀(l:List ResultVar) (acc:Array Value) (vs:List AV),BF P hh s l=some vs → ∃us,(l.foldlM (fun(bs:Array Value) r=>do let y ←(match r with | .tmp t=>pure (a.tmps.getD t undef) | .cell p ty=>do loadVar ty (←asAddr (a.tmps.getD p undef)):Sem Value);pure (bs.push y)) acc:Sem (Array Value)).run P w=.ok (acc++us.toArray) w∧az Z ψ hh.get w vs us
 |[],acc,vs,hx=>by
  simp only[BF]at hx
  cases hx
  exact⟨[],by simp,by simp only[az]⟩
 |.tmp d::l,acc,vs,hx=>by
  simp only[BF]at hx
  split at hx
  ·rename_i jt h1
   cases hx
   obtain⟨us,h2,h3⟩:=tT g t l (acc.push (a.tmps.getD d undef)) jt h1;refine⟨a.tmps.getD d undef::us,?_,by simp only[az];exact⟨_,_,rfl,t.rep d,h3⟩⟩;simp only[List.foldlM_cons,Sem.run_bind,Sem.run_pure,Result.andThen_ok];rw[h2];simp
  ·cases hx
 |.cell d ty::l,acc,vs,hx=>by
  simp only[BF]at hx
  split at hx
  ·rename_i id sz off hd
   split at hx
   ·rename_i bt cs hg
    split at hx
    ·rename_i v jt hv h1
     cases hx
     have h4:=t.rep d;rw[hd]at h4;simp only[aD]at h4;obtain⟨ad,h5,h6⟩:=h4;obtain⟨gg,ws,e1,e2,e3,e4⟩:=g.box id bt cs hg;have h7:=h6 (by rw[hg];simp);rw[e1]at h7;simp only[Y5,Nat.zero_mul,Nat.zero_add]at h7;subst h7;obtain⟨V,h8,h9⟩:=kP (a:=⟨gg,off,none⟩) (e3.drop off) (fun j u hu=>by rw[cF];simp only[World.cell?,e2];rw[List.getElem?_drop]at hu;simpa using hu) hv;have q6:(loadVar ty ⟨gg,off,none⟩).run P w=.ok V w:=by have:=h8;simpa[Instr.loadAt,Instr.sureAddr] using this
     obtain⟨us,h2,h3⟩:=tT g t l (acc.push V) jt h1;refine⟨V::us,?_,by simp only[az];exact⟨_,_,rfl,h9,h3⟩⟩;have GB:(asAddr (a.tmps.getD d undef)).run P w=.ok ⟨gg,off,none⟩ w:=by rw[h5];rfl
     simp only[List.foldlM_cons,Sem.run_bind,GB,Sem.run_pure,Result.andThen_ok,q6];rw[h2];simp
    ·cases hx
   ·cases hx
  ·cases hx
theorem LD{fn:Func}{hh:Heap}{n:Nat}{s:List (Nat×AV)}{a:Act}{vs:List AV}(g:Good Z ψ hh.get w B0 O)(t:dm Z ψ hh.get w n (look s) a)(hx:BF P hh s fn.results.toList=some vs) :
  ∃us v,(results fn a.tmps).run P w=.ok v w∧az Z ψ hh.get w vs us∧v=(if us.length=1 then us.headD undef else .tuple us.toArray):=by
 obtain⟨us,h1,h2⟩:=tT (P:=P) g t fn.results.toList #[] vs hx;refine⟨us,_,?_,h2,rfl⟩;have h3:(fn.results.mapM fun r=>(match r with | .tmp t=>pure (a.tmps.getD t undef) | .cell p ty=>do loadVar ty (←asAddr (a.tmps.getD p undef)):Sem Value)).run P w=.ok us.toArray w:=by simp_all [Array.mapM_eq_foldlM,Array.foldlM_toList]
 have h4:results fn a.tmps=(do
   let vs ←fn.results.mapM fun r=>(match r with | .tmp t=>pure (a.tmps.getD t undef) | .cell p ty=>do loadVar ty (←asAddr (a.tmps.getD p undef)):Sem Value)
   pure (if h:vs.size=1 then vs[0] else .tuple vs)):=rfl
 rw[h4,Sem.run_bind,h3,Result.andThen_ok,Sem.run_pure];congr 1;by_cases h5:us.length=1
 ·obtain⟨u,rfl⟩:=List.length_eq_one_iff.1 h5;simp
 simp_all
theorem iC:∀(ps:List PK) (ids:List Nat) (s:Nat) (x:KR (mj ps)) (us:List Value),az Z ψ h w ((aX ps ids s x).map (·.2)) us→us.length=ps.length∧∀p∈aX ps ids s x,∃j u,p.1=s+j∧us[j]? = some u∧aD Z ψ h w p.2 u
 |[],ids,s,x,us,hr=>by simp only[aX,List.map_nil,az]at hr;subst hr;exact⟨rfl,fun p hp=>by simp[aX]at hp⟩
 |.val k::ps,ids,s,x,us,hr=>by
  simp only[aX,List.map_cons,az]at hr;obtain⟨u,jD,rfl,h1,h2⟩:=hr;obtain⟨h3,h4⟩:=iC ps ids (s+1) x.2 jD h2;refine⟨by simp[h3],fun p hp=>?_⟩;simp only[aX]at hp;rcases abq.1 hp with rfl|hp
  ·exact⟨0,u,rfl,rfl,h1⟩
  ·obtain⟨j,u',h5,h6,h7⟩:=h4 p hp;exact⟨j+1,u',by omega,by simpa using h6,h7⟩
 |.ref::ps,i::ids,s,x,us,hr=>by
  simp only[aX,List.map_cons,az]at hr;obtain⟨u,jD,rfl,h1,h2⟩:=hr;obtain⟨h3,h4⟩:=iC ps ids (s+1) x jD h2;refine⟨by simp[h3],fun p hp=>?_⟩;simp only[aX]at hp;rcases abq.1 hp with rfl|hp
  ·exact⟨0,u,rfl,rfl,h1⟩
  ·obtain⟨j,u',h5,h6,h7⟩:=h4 p hp;exact⟨j+1,u',by omega,by simpa using h6,h7⟩
 |.ref::ps,[],s,x,us,hr=>by
  simp only[aX,List.map_cons,az]at hr;obtain⟨u,jD,rfl,h1,h2⟩:=hr;obtain⟨h3,h4⟩:=iC ps [] (s+1) x jD h2;refine⟨by simp[h3],fun p hp=>?_⟩;simp only[aX]at hp;rcases abq.1 hp with rfl|hp
  ·exact⟨0,u,rfl,rfl,h1⟩
  ·obtain⟨j,u',h5,h6,h7⟩:=h4 p hp;exact⟨j+1,u',by omega,by simpa using h6,h7⟩
 |.own::ps,i::ids,s,x,us,hr=>by
  simp only[aX,List.map_cons,az]at hr;obtain⟨u,jD,rfl,h1,h2⟩:=hr;obtain⟨h3,h4⟩:=iC ps ids (s+1) x jD h2;refine⟨by simp[h3],fun p hp=>?_⟩;simp only[aX]at hp;rcases abq.1 hp with rfl|hp
  ·exact⟨0,u,rfl,rfl,h1⟩
  ·obtain⟨j,u',h5,h6,h7⟩:=h4 p hp;exact⟨j+1,u',by omega,by simpa using h6,h7⟩
 |.own::ps,[],s,x,us,hr=>by
  simp only[aX,List.map_cons,az]at hr;obtain⟨u,jD,rfl,h1,h2⟩:=hr;obtain⟨h3,h4⟩:=iC ps [] (s+1) x jD h2;refine⟨by simp[h3],fun p hp=>?_⟩;simp only[aX]at hp;rcases abq.1 hp with rfl|hp
  ·exact⟨0,u,rfl,rfl,h1⟩
  ·obtain⟨j,u',h5,h6,h7⟩:=h4 p hp;exact⟨j+1,u',by omega,by simpa using h6,h7⟩
 |.xT f m::ps,ids,s,x,us,hr=>by
  simp only[aX,List.map_cons,az]at hr;obtain⟨u,jD,rfl,h1,h2⟩:=hr;obtain⟨h3,h4⟩:=iC ps (ids.drop m) (s+1) x jD h2;refine⟨by simp[h3],fun p hp=>?_⟩;simp only[aX]at hp;rcases abq.1 hp with rfl|hp
  ·exact⟨0,u,rfl,rfl,h1⟩
  ·obtain⟨j,u',h5,h6,h7⟩:=h4 p hp;exact⟨j+1,u',by omega,by simpa using h6,h7⟩
 |.agg m::ps,ids,s,x,us,hr=>by
  simp only[aX,List.map_cons,az]at hr;obtain⟨u,jD,rfl,h1,h2⟩:=hr;obtain⟨h3,h4⟩:=iC ps (ids.drop m) (s+1) x jD h2;refine⟨by simp[h3],fun p hp=>?_⟩;simp only[aX]at hp;rcases abq.1 hp with rfl|hp
  ·exact⟨0,u,rfl,rfl,h1⟩
  ·obtain⟨j,u',h5,h6,h7⟩:=h4 p hp;exact⟨j+1,u',by omega,by simpa using h6,h7⟩
section
variable {An:FuncId→Nat→Option Shape}
theorem Es(V:Env P Eqs Sg F)(hm:P.follows .mixedOrders=true){f:FuncId}{g:aO}{fn:Func}{y:g.B}{b:Frame}{cs:List Frame}{xu:Act→World→Prop} (vS:∀st Z ψ a w,tI P g fn st=some y→Ok Z0 w0 O ψ0 Z ψ st.heap.get w→dm Z ψ st.heap.get w fn.ntmps (look st.tmps) a→xu a w) :
  ∀(n:Nat) (sh:Shape) (c:Code) (k:List Item) (x:sh.T) (Z:Nat→Prop) (ψ:Nat→Value) (a:Act) (w:World),oz P Eqs Sg An F f g fn n sh (.inLoop c::k) x=some y → Ok Z0 w0 O ψ0 Z ψ (aA sh x).heap.get w→dm Z ψ (aA sh x).heap.get w fn.ntmps (look (aA sh x).tmps) a→Reach P b cs xu (lone (b.at a (.code c::.inLoop c::k)) cs w)
 |0,sh,c,k,x,Z,ψ,a,w,hx,_,_=>by simp only[oz]at hx;cases hx
 |n+1,sh,c,k,x,Z,ψ,a,w,hx,ko,t=>by simp only[oz]at hx;exact tS V hm (fun sh c k x Z ψ a w h1 h2 h3=>Es V hm vS n sh c k x Z ψ a w h1 h2 h3) vS fuel _ _ Z ψ a w hx ko t
theorem JE{n i:Nat}(h:i∈aT n):∃j,j<n∧i=1000+20*j:=by
 unfold aT at h;obtain⟨j,h1,rfl⟩:=acE.1 h
 grind
theorem Ve{α:Type}{l:List α}{a:α}(h:a∈l):(a,a)∈l.zip l:=by
 induction l with
 |nil=>cases h
 |cons b r ih =>
  simp only[List.zip_cons_cons]
  grind
theorem OE(V:Env P Eqs Sg F)(hm:P.follows .mixedOrders=true){f:FuncId}{g:aO}{n:Nat}{x:g.A}{y:g.B}(hx:NY P Eqs Sg An F f g n x=some y):HM P f g x y:=by
 intro Z ψ0 w lJ hg hr;unfold NY at hx
 split at hx
 ·cases hx
 rename_i fn c abh;have hf:P.funcs[f%1000]? = some fn∧fn.body=some c:=by
  unfold body at abh;obtain⟨fn',h1,h2⟩:=acY.1 abh;obtain⟨c',h3,h4⟩:=acX.1 h2
  cases h4
  exact⟨h1,h3⟩
 split at hx
 ·rename_i hle;simp only[Bool.and_eq_true,decide_eq_true_eq]at hle;obtain⟨hlen,ac3⟩:=iC g.ps (aT g.bs.length) 0 x.1 lJ hr;intro cs
  let b:Frame:={ (default:Frame) with fn:=f%1000,kind:=.normal }
  let a0:Act:={ tmps:=lJ.toArray++Array.replicate (fn.ntmps-lJ.toArray.size) undef,defers:=[] }
  have ac4:Frame.enter P (f%1000) lJ.toArray .normal=b.at a0 [.code c]:=by simp[Frame.enter,Frame.at,hf.1,hf.2,b,a0]
  have ok0:Ok Z w (Own ψ0 (sM g x)) ψ0 Z ψ0 (entry g x).heap.get w :=⟨hg,fun _ h=>h,fun _ h=>.inl h,rfl,rfl,rfl,abX _,fun _ _ _=>rfl,fun _ _ _=>rfl⟩;have tr0:dm Z ψ0 (entry g x).heap.get w fn.ntmps (look (entry g x).tmps) a0:=by
   refine fK (fun p hp=>?_) (by simp[a0];omega) rfl;obtain⟨j,u,h1,h2,h3⟩:=ac3 p hp;rw[h1];have hj:j<lJ.length:=(abp.1 h2).1;have:a0.tmps.getD (0+j) undef=u:=by rw[Nat.zero_add,Array.getD_eq_getD_getElem?];simp only[a0];rw[Array.getElem?_append_left (by simpa using hj)];simp[h2]
   rw[this];exact h3
  have vS:∀st Z1 pV a w1,tI P g fn st=some y→Ok Z w (Own ψ0 (sM g x)) ψ0 Z1 pV st.heap.get w1→dm Z1 pV st.heap.get w1 fn.ntmps (look st.tmps) a → a.defers=[]∧∃v,(results fn a.tmps).run P w1=.ok v w1∧∃v' Z' ψ',Ending.returned v=.returned v'∧(∀b,Z b→Z' b)∧(∀b,Z' b→Z b∨Own ψ0 (sM g x) b∨w.heap.size≤b)∧dg ψ0 (sM g x) w w1 ∧ Good Z' ψ' (lK g y).get w1 w.heap.size (Own ψ0 (sM g x))∧(∀i∈aT g.bs.length,ψ' i=ψ0 i)∧aD Z' ψ' (lK g y).get w1 (fP (aY g.rs (aT g.bs.length) 2000 3000 y.1)) v':=by
   intro st Z1 pV a w1 vS k t;refine⟨t.defers,?_⟩;unfold tI at vS
   split at vS
   ·cases vS
   rename_i vs pU
   split at vS
   ·rename_i y1 y2 hd hb GN
    cases vS
    simp only[Bool.and_eq_true]at GN;obtain⟨LB,Jt⟩:=GN;obtain⟨us,v,h1,h2,h3⟩:=LD (P:=P) k.du t pU;have hl':(aT g.bs.length).length=g.bs.length:=by simp[aT]
    let L:List BP:=cV g.bs st.heap (aT g.bs.length) (aT g.bs.length) 2000 y2++c9 g.rs vs 3000 y1
    have eH:eL L=lK g (y1,y2):=by show eL (_++_)=_;rw[oP,j8 _ _ _ _ _ _ hb hl',iJ];rfl
    have eN:L.map (·.1)=tx g:=by show(_++_:List BP).map _=_;rw[List.map_append,jg _ _ _ _ _ _ hb hl',gK];rfl
    have eS:L.filterMap (·.2.1)=dz g.bs st.heap (aT g.bs.length)++eP g.rs vs:=by show(_++_:List BP).filterMap _=_;rw[List.filterMap_append,lG _ _ _ _ _ _ hb hl',jS _ _ _ _ hd]
    have hn:cw (L.map (·.1))=true:=by rw[eN];exact Jt
    have kz:=CU (ψ:=pV) hn;have hz:∀b,Z1 b→tj Z1 pV st.heap.get (iu g.rs vs++ir g.bs st.heap (aT g.bs.length)) b:=fun b hb=>.inl hb;have P7:=(vd LB).2 st.heap;have g':Good (tj Z1 pV st.heap.get (iu g.rs vs++ir g.bs st.heap (aT g.bs.length))) (fJ pV L) (eL L).get w1 w.heap.size (Own ψ0 (sM g x)):=by
     refine AA k.du LB hn eS fun e he=>?_;rcases abY.1 he with he|he
     ·exact nH k.du hz g.bs _ _ 2000 y2 hb (fun id b bM h1 h2=>.inr ⟨id,abw _ bM,h1,h2⟩) (fun s hs=>P7 s (abr _ hs)) (fun e he=>kz e (abr _ he)) e he
     ·exact kT g.rs vs 3000 y1 hd (fun s hs=>P7 s (abw _ hs)) e he
    obtain⟨HW,HP⟩:=j9 _ _ _ hb;have KK:=vf (ids2:=aT g.bs.length) (Z':=tj Z1 pV st.heap.get (iu g.rs vs++ir g.bs st.heap (aT g.bs.length))) (ψ':=fJ pV L) (h':=(eL L).get) k.du hz hb hl' (fun e he=>kz e (abr _ he)) g.rs vs 3000 y1 us hd (fun id b bM h1 h2=>.inr ⟨id,abr _ bM,h1,h2⟩) (fun e he=>kz e (abw _ he)) h2;refine⟨v,h1,v,tj Z1 pV st.heap.get (iu g.rs vs++ir g.bs st.heap (aT g.bs.length)),fJ pV L,rfl,fun b hb=>.inl (k.g9 b hb),fun b hb=>?_,⟨k.os,k.tape,k.output,k.size,k.block⟩,by rw[←eH];exact g',fun i hi=>?_,?_⟩
    ·rcases Qf hb with h4|⟨id,h4,h5⟩
     ·exact k.fq b h4
     ·exact .inr (k.du.live id b h4 h5).2.symm
    ·obtain⟨o,ho⟩:=lH (hh:=st.heap) g.bs (aT g.bs.length) (aT g.bs.length) 2000 y2 HW (i,i) (Ve hi);rw[jR hn (List.mem_append_left _ ho)];obtain⟨j,h4,h5⟩:=JE hi;exact k.fix i (by omega) (HP i hi)
    ·rw[←eH];have Ul:us.length=(aY g.rs (aT g.bs.length) 2000 3000 y1).length:=KK.length.symm;rw[h3]
     match hE:aY g.rs (aT g.bs.length) 2000 3000 y1,us,KK,Ul with
     |[],[],KK,_=>simp only[fP];simp only[aD];exact⟨#[],rfl,by simpa using KK⟩
     |[e1],[u],KK,_ =>
      simp only[az]at KK;obtain⟨u',jD,he,h4,_⟩:=KK
      cases he
      simpa[fP] using h4
     |e1::e2::er,u1::u2::ur,KK,_ =>simp only[fP,aD];exact⟨(u1::u2::ur).toArray,by simp,by simpa using KK⟩
   ·cases vS
  have reach:=tS V hm (b:=b) (cs:=cs) (fun sh c k x Z ψ a w h1 h2 h3=>Es V hm vS n sh c k x Z ψ a w h1 h2 h3) vS fuel _ _ Z ψ0 a0 w hx ok0 tr0;obtain⟨a',w',todo,⟨hd,v,Cz,hR⟩,hs⟩:=reach;rw[←ac4]at hs;exact⟨.returned v,w',_,hR,hs,rfl,rfl,hd,rfl,fn,hf.1,Cz⟩
 ·cases hx
end
theorem LF(hX:∀f g u,Sg f=some g→g.x=some u→hZ P (f%1000) u){G:(f:FuncId)→(g:aO)→Option (g.A→Option g.B)}{An:FuncId→Nat→Option Shape}(Gt:∀t k,Eqs t=some k→nE P t k)(Sk:∀f g,Sg f=some g→kb P (f%1000))(hm:P.follows .mixedOrders=true) (hG:∀f g u x y,Sg f=some g→G f g=some u→u x=some y→HM P f g x y):∀(m:Nat) f g x y,Sg f=some g→Fn P Eqs Sg An G m f g x=some y→HM P f g x y
 |0,f,g,x,y,hs,hx=>by
  simp only[Fn]at hx
  split at hx
  ·rename_i u hu;exact hG f g u x y hs hu hx
  ·cases hx
 |m+1,f,g,x,y,hs,hx=>by
  simp only[Fn]at hx
  split at hx
  ·rename_i u hu;exact hG f g u x y hs hu hx
  ·exact OE ⟨Gt,fun f g x y h1 h2=>LF hX Gt Sk hm hG m f g x y h1 h2,hX,Sk⟩ hm hx
end Go.Vs
namespace Go.Vs
abbrev FT:=(f:FuncId)→(g:aO)→g.A→Option g.B
variable {P:Program} {Eqs:TypeId→Option K} {Sg:FuncId→Option aO} {R:Type}
def xU(p:Nat→Prop):Prop:=∃m,∀m',m≤m'→p m'
theorem xU.now{p:Nat→Prop}(h:∀m,p m):xU p:=⟨0,fun m _=>h m⟩
theorem xU.and{p q r:Nat→Prop}(h:xU p)(k:xU q)(hr:∀m,p m→q m→r m):xU r:=by obtain⟨a,ha⟩:=h;obtain⟨b,hb⟩:=k;exact⟨max a b,fun m hm=>hr m (ha m (by omega)) (hb m (by omega))⟩
theorem xU.imp{p r:Nat→Prop}(h:xU p)(hr:∀m,p m→r m):xU r:=by obtain⟨a,ha⟩:=h;exact⟨a,fun m hm=>hr m (ha m hm)⟩
def To(A:Nat→FT)(L:FT):Prop:=∀f g x y,L f g x=some y→xU fun m=>A m f g x=some y
def ToK{α:Type}(A:Nat→α→Option R)(L:α→Option R):Prop:=∀x y,L x=some y→xU fun m=>A m x=some y
def ToJ(A:Nat→(sh:Shape)→List Item→sh.T→Option R)(L:(sh:Shape)→List Item→sh.T→Option R):Prop:=∀sh k x y,L sh k x=some y→xU fun m=>A m sh k x=some y
theorem Vf(h:Heap)(id:Nat)(f:FuncId)(vs:List AV):(∀F F':FT,j5 Sg F h id f vs some=j5 Sg F' h id f vs some) ∨ ∃ff g x,(∀F F':FT,F ff g x=F' ff g x→j5 Sg F h id f vs some=j5 Sg F' h id f vs some)∧∀F:FT,F ff g x=none→j5 Sg F h id f vs some=none:=by
 unfold j5
 split
 ·simp_all
 rename_i g hg
 split
 ·simp_all
 split
 ·split
  ·split
   ·rename_i x b hx hb hp;refine .inr ⟨_,g,(x,b),fun F F' e=>by rw[e],fun F e=>by rw[e];rfl⟩
   simp_all
  ·split
   ·rename_i x b hx hb hp;refine .inr ⟨_,g,(x,b),fun F F' e=>by rw[e],fun F e=>by rw[e];rfl⟩
   simp_all
 simp_all
theorem Zx{A:Nat→FT}{L:FT}(hA:To A L){h:Heap}{id:Nat}{f:FuncId}{vs:List AV}{e:bD}(he:j5 Sg L h id f vs some=some e):xU fun m=>j5 Sg (A m) h id f vs some=some e:=by
 rcases Vf (Sg:=Sg) h id f vs with k|⟨ff,g,x,k1,k2⟩
 ·exact .now fun m=>(k _ _).trans he
 ·cases hy:L ff g x with
  |none=>simp_all
  |some y=>exact(hA _ _ _ _ hy).imp fun m hm=>(k1 (A m) L (hm.trans hy.symm)).trans he
theorem LG{A:Nat→FT}{L:FT}(hA:To A L){id:Nat}{h:Heap}{s:List (Nat×AV)}{o:Oper}{e:bD}(he:dq P Eqs Sg L id h s o some=some e):xU fun m=>dq P Eqs Sg (A m) id h s o some=some e:=by
 obtain⟨dst,op,type,pos,after,guard⟩:=o
 cases op with
 |call c =>
  obtain⟨callee,args,argTypes⟩:=c
  cases callee with
  |value f =>
   grind [dq,Zx]
  |builtin bi=>cases bi<;>exact .now fun m=>he
  |invoke _ _=>exact .now fun m=>he
 |unOp u _ _=>cases u<;>exact .now fun m=>he
 |makeFunc fn _ _=>cases fn<;>exact .now fun m=>he
 |makeMap _ r=>cases r<;>exact .now fun m=>he
 |next _ b=>cases b<;>exact .now fun m=>he
 |_=>exact .now fun m=>he
theorem xU.all{p:Nat→Nat→Prop}:∀(n:Nat),(∀j,j<n→xU (p j))→xU fun m=>∀j,j<n→p j m
 |0,_=>.now fun m j hj=>absurd hj (Nat.not_lt_zero _)
 |n+1,h=>(xU.all n fun j hj=>h j (by omega)).and (h n (by omega)) fun m h1 h2 j hj=>by
  grind
theorem OF{h:Heap}{x:AV}{K:Nat→AV→Heap→Option R}{KL:AV→Heap→Option R}(hK:∀v h y,KL v h=some y→xU fun m=>K m v h=some y){r:R}(he:mB h x KL=some r):xU fun m=>mB h x (K m)=some r:=by
 unfold mB at he ⊢
 split at he
 ·rename_i id
  split at he
  ·rename_i kk vk p hg
   try simp only[hg]
   cases hp:p.2 with
   |nil =>simp_all
   |cons c l =>simp only[hp,List.isEmpty_cons,cond_false]at he ⊢;have h1:=qo he;refine(xU.all _ fun j hj=>?_).imp fun m hm=>mF (by simp) hm;simp_all
  ·cases he
 ·cases he
theorem Vg{h:Heap}{x:AV}{want:Bool}{K:Nat→AV→Option R}{KL:AV→Option R}(hK:∀v y,KL v=some y→xU fun m=>K m v=some y){r:R}(he:yd h x want KL=some r):xU fun m=>yd h x want (K m)=some r:=by
 unfold yd at he ⊢
 split at he
 ·simp_all
 ·rename_i xs hv
  cases BJ:xs.isEmpty with
  |true =>simp only[BJ,cond_true]at he ⊢;have h1:=qo he;exact(xU.all _ fun j hj=>hK _ _ (h1 j hj)).imp fun m hm=>mF (by decide) hm
  |false =>simp_all
 ·cases he
theorem Et{A:Nat→FT}{L:FT}(hA:To A L){rid:Nat}{draw:Bool}{ops:Array Oper}{b:Array Nat}{K:Nat→St→Option R}{KL:St→Option R}(hK:ToK K KL) :
  ∀(l:List (Nat×Oper)) (st:St) (r:R),bJ P Eqs Sg L rid draw ops b l st KL=some r→xU fun m=>bJ P Eqs Sg (A m) rid draw ops b l st (K m)=some r
 |[],st,r,he=>hK st r (by grind [bJ])
 |(i,o)::l,st,r,he=>by
  have ih:=Et hA (rid:=rid) (draw:=draw) (ops:=ops) (b:=b) hK l;have run:∀st:St,(match (if draw then none else rk P (opId rid i) st o) with
    |some fB=>bJ P Eqs Sg L rid draw ops b l fB KL
    |none=>match (if draw then none else ya o) with
    |some x=>mB st.heap (ρ st.tmps x) fun v h=>bJ P Eqs Sg L rid draw ops b l (({ st with heap:=h }:St).put o.dst v) KL
    |none=>match (if draw then none else isNil P o) with
    |some (x,want)=>yd st.heap (ρ st.tmps x) want fun v=>bJ P Eqs Sg L rid draw ops b l (st.put o.dst v) KL
    |none=>if draw then dq P Eqs Sg L (opId rid i) (jc (ahead rid (b.getD i 0) st.heap) (iU ops b i st.tmps o)) st.tmps o fun e =>
     if(iR true rid ops b i (b.getD i 0) (iV (iU ops b i st.tmps o) (ahead rid (b.getD i 0) st.heap) e)&&nt (iU ops b i st.tmps o) e)=true then
      bJ P Eqs Sg L rid draw ops b l ({ st with heap:=match iV (iU ops b i st.tmps o) (ahead rid (b.getD i 0) st.heap) e with | .wr _ h=>h|e=>e.h st.heap }.put o.dst e.v) KL else none
     else dq P Eqs Sg L (opId rid i) st.heap st.tmps o fun e =>
     if iR false rid ops b i (2 ^ i-1) e then bJ P Eqs Sg L rid draw ops b l ({ st with heap:=match e with | .wr _ h=>h|e=>e.h st.heap }.put o.dst e.v) KL else none)=some r →
    xU fun m=>(match (if draw then none else rk P (opId rid i) st o) with
    |some fB=>bJ P Eqs Sg (A m) rid draw ops b l fB (K m)
    |none=>match (if draw then none else ya o) with
    |some x=>mB st.heap (ρ st.tmps x) fun v h=>bJ P Eqs Sg (A m) rid draw ops b l (({ st with heap:=h }:St).put o.dst v) (K m)
    |none=>match (if draw then none else isNil P o) with
    |some (x,want)=>yd st.heap (ρ st.tmps x) want fun v=>bJ P Eqs Sg (A m) rid draw ops b l (st.put o.dst v) (K m)
    |none=>if draw then dq P Eqs Sg (A m) (opId rid i) (jc (ahead rid (b.getD i 0) st.heap) (iU ops b i st.tmps o)) st.tmps o fun e =>
     if(iR true rid ops b i (b.getD i 0) (iV (iU ops b i st.tmps o) (ahead rid (b.getD i 0) st.heap) e)&&nt (iU ops b i st.tmps o) e)=true then
      bJ P Eqs Sg (A m) rid draw ops b l ({ st with heap:=match iV (iU ops b i st.tmps o) (ahead rid (b.getD i 0) st.heap) e with | .wr _ h=>h|e=>e.h st.heap }.put o.dst e.v) (K m) else none
     else dq P Eqs Sg (A m) (opId rid i) st.heap st.tmps o fun e =>
     if iR false rid ops b i (2 ^ i-1) e then bJ P Eqs Sg (A m) rid draw ops b l ({ st with heap:=match e with | .wr _ h=>h|e=>e.h st.heap }.put o.dst e.v) (K m) else none)=some r:=by
   intro st h
   split at h
   ·simp_all
   rename_i rL
   split at h
   ·rename_i x SA
    try simp only[rL,SA]
    exact OF (fun v h y hy=>ih _ y hy) h
   rename_i SA
   split at h
   ·rename_i x want hnl
    try simp only[rL,SA,hnl]
    exact Vg (fun v y hy=>ih _ y hy) h
   rename_i hnl
   try simp only[rL,SA,hnl]
   cases draw with
   |true =>
    simp only[if_true]at h ⊢;rw[mW]at h;obtain⟨e,h1,h2⟩:=acY.1 h;by_cases hc:(iR true rid ops b i (b.getD i 0) (iV (iU ops b i st.tmps o) (ahead rid (b.getD i 0) st.heap) e)&&nt (iU ops b i st.tmps o) e)=true
    ·rw[if_pos hc]at h2;refine(LG hA h1).and (ih _ r h2) fun m h3 h4=>?_;rw[mW,h3,Option.bind_some,if_pos hc];exact h4
    simp_all
   |false =>
    simp only[Bool.false_eq_true,if_false]at h ⊢;rw[mW]at h;obtain⟨e,h1,h2⟩:=acY.1 h;by_cases hc:iR false rid ops b i (2 ^ i-1) e=true
    ·rw[if_pos hc]at h2;refine(LG hA h1).and (ih _ r h2) fun m h3 h4=>?_;rw[mW,h3,Option.bind_some,if_pos hc];exact h4
    simp_all
  simp only[bJ]at he ⊢
  split at he
  ·rename_i hg
   try simp only[hg]
   exact run _ he
  ·rename_i j want hg
   try simp only[hg]
   split at he
   ·cases he
   ·rename_i d hd
    try simp only[hd]
    split at he
    ·rename_i t ht
     try simp only[ht]
     cases t<;>cases want<;>simp only[cond_true,cond_false,if_true,if_false,Bool.false_eq_true]at he ⊢<;>first|exact run _ he|grind
    ·grind
    ·cases he
theorem GW{A:Nat→FT}{L:FT}(hA:To A L){n rid:Nat}{ops:Array Oper}{draw:Bool}{K:Nat→St→Option R}{KL:St→Option R}(hK:ToK K KL){st:St}{r:R} (he:jC P Eqs Sg L n rid ops draw st KL=some r):xU fun m=>jC P Eqs Sg (A m) n rid ops draw st (K m)=some r:=by
 unfold jC at he ⊢;by_cases hc:((ops.all fun o=>jB n o)&&(!draw || (xZ ops (if draw then Region.before ops else #[])&&(DE ops (if draw then Region.before ops else #[])&&cw (ops.toList.filterMap (·.dst)))))&&decide (ops.size≤128))=true
 ·dsimp only at he ⊢
  rw[if_pos hc]at he;refine(Et hA hK _ _ r he).imp fun m hm=>?_;simp_all
 simp_all
theorem iL{A:Nat→FT}{L:FT}(hA:To A L){n:Nat}{ann:Nat→Option Shape}{J:Nat→(sh:Shape)→List Item→sh.T→Option R}{JL:(sh:Shape)→List Item→sh.T→Option R}(hJ:ToJ J JL){ret:St→Option R} :
  ∀(fu:Nat) (items:List Item) (st:St) (r:R),aI P Eqs Sg L n ann JL ret fu items st=some r→xU fun m=>aI P Eqs Sg (A m) n ann (J m) ret fu items st=some r
 |0,items,st,r,he=>by grind [aI]
 |fu+1,[],st,r,he=>.now fun m=>by grind [aI]
 |fu+1,it::T6,st,r,he=>by
  have ih:=iL hA (n:=n) (ann:=ann) hJ (ret:=ret) fu
  cases it with
  |inBlock id=>grind [aI]
  |inScope c=>grind [aI]
  |inLoop c =>
   simp only[aI]at he ⊢
   split at he
   ·cases he
   ·rename_i sh hsh
    try simp only[hsh]
    split at he
    ·rename_i x hx
     try simp only[hx]
     exact hJ _ _ _ _ he
    ·cases he
  |code c =>
   cases c with
   |cond c x y =>
    simp only[aI]at he ⊢
    grind
   |exit id =>
    grind [aI]
   |ret=>exact .now fun m=>by grind [aI]
   |region id ops draw =>simp only[aI]at he ⊢;exact GW hA (K:=fun m fB=>aI P Eqs Sg (A m) n ann (J m) ret fu T6 fB) (fun st y h=>ih T6 st y h) he
   |skip=>grind [aI]
   |label l=>grind [aI]
   |seq x y=>grind [aI]
   |block id c=>grind [aI]
   |scope c=>grind [aI]
   |loop c=>grind [aI]
   |_=>grind [aI]
  |_=>grind [aI]
section
variable {An:FuncId→Nat→Option Shape} {G:(f:FuncId)→(g:aO)→Option (g.A→Option g.B)}
def FLe(F F':FT):Prop:=∀f g x y,F f g x=some y→F' f g x=some y
theorem FLe.to{F F':FT}(h:FLe F F'):To (fun _=>F') F:=fun f g x y hy=>.now fun _=>h f g x y hy
theorem xU.get{p:Prop}(h:xU fun _=>p):p:=by obtain⟨m,hm⟩:=h;exact hm m (abX _)
theorem qq{F F':FT}(h:FLe F F'){f:FuncId}{g:aO}{fn:Func}:∀(n n':Nat) (sh:Shape) (k:List Item) (x:sh.T) (y:g.B),n≤n'→oz P Eqs Sg An F f g fn n sh k x=some y→oz P Eqs Sg An F' f g fn n' sh k x=some y
 |0,_,_,_,_,_,_,hx=>by grind [oz]
 |n+1,0,_,_,_,_,hn,_=>by omega
 |n+1,n'+1,sh,k,x,y,hn,hx=>by
  cases k with
  |nil=>grind [oz]
  |cons it k =>
   cases it with
   |inLoop c =>simp only[oz]at hx ⊢;exact(iL h.to (J:=fun _=>oz P Eqs Sg An F' f g fn n') (JL:=oz P Eqs Sg An F f g fn n) (fun sh k x y hy=>.now fun _=>qq h n n' sh k x y (by omega) hy) _ _ _ _ hx).get
   |_=>grind [oz]
theorem SI{F F':FT}(h:FLe F F'){f:FuncId}{g:aO}{n n':Nat}{x:g.A}{y:g.B}(hn:n≤n')(hx:NY P Eqs Sg An F f g n x=some y):NY P Eqs Sg An F' f g n' x=some y:=by
 unfold NY at hx ⊢
 split at hx
 ·cases hx
 ·rename_i fn c hb
  try simp only[hb]
  split at hx
  ·rename_i hc;simp only[if_pos hc];exact(iL h.to (J:=fun _=>oz P Eqs Sg An F' f g fn n') (JL:=oz P Eqs Sg An F f g fn n) (fun sh k x y hy=>.now fun _=>qq h n n' sh k x y hn hy) _ _ _ _ hx).get
  ·cases hx
theorem C1:∀m,FLe (Fn P Eqs Sg An G m) (Fn P Eqs Sg An G (m+1))
 |0,f,g,x,y,hx=>by
  grind [Fn]
 |m+1,f,g,x,y,hx=>by
  rw[Fn]at hx ⊢
  split at hx
  ·omega
  ·rename_i hu
   try simp only[hu]
   exact SI (C1 m) (Nat.le_succ m) hx
theorem C2{m m':Nat}(h:m≤m'):FLe (Fn P Eqs Sg An G m) (Fn P Eqs Sg An G m'):=by
 induction h with
 |refl=>exact fun _ _ _ _ h=>h
 |step _ ih=>exact fun f g x y hx=>C1 _ f g x y (ih f g x y hx)
variable (P Eqs Sg An G) in
open Classical in
noncomputable def Fix:FT:=fun f g x=>if h:∃m y,Fn P Eqs Sg An G m f g x=some y then some (Classical.choose (Classical.choose_spec h)) else none
theorem JF:To (Fn P Eqs Sg An G) (Fix P Eqs Sg An G):=fun f g x y hy=>by
 unfold Fix at hy
 split at hy
 ·rename_i h
  cases hy
  exact⟨Classical.choose h,fun m' hm=>C2 hm _ _ _ _ (Classical.choose_spec (Classical.choose_spec h))⟩
 ·cases hy
theorem Vh{m:Nat}{f:FuncId}{g:aO}{x:g.A}{y:g.B}(h:Fn P Eqs Sg An G m f g x=some y):Fix P Eqs Sg An G f g x=some y:=by
 have he:∃m y,Fn P Eqs Sg An G m f g x=some y:=⟨m,y,h⟩
 cases hy:Fix P Eqs Sg An G f g x with
 |none=>simp_all [Fix,dif_pos]
 |some y' =>obtain⟨m1,h1⟩:=JF f g x y' hy;have h2:=h1 (max m m1) (by omega);have h3:=C2 (show m≤max m m1 by omega) f g x y h;simp_all
variable (P Eqs Sg An G) in
open Classical in
noncomputable def Lp(f:FuncId)(g:aO)(fn:Func)(sh:Shape)(k:List Item)(x:sh.T):Option g.B :=if h:∃m y,oz P Eqs Sg An (Fn P Eqs Sg An G m) f g fn m sh k x=some y then some (Classical.choose (Classical.choose_spec h)) else none
theorem Vi{f:FuncId}{g:aO}{fn:Func}:ToJ (fun m=>oz P Eqs Sg An (Fn P Eqs Sg An G m) f g fn m) (Lp P Eqs Sg An G f g fn):=fun sh k x y hy=>by
 unfold Lp at hy
 split at hy
 ·rename_i h
  cases hy
  exact⟨Classical.choose h,fun m' hm=>qq (C2 hm) _ _ _ _ _ _ hm (Classical.choose_spec (Classical.choose_spec h))⟩
 ·cases hy
theorem afP{m:Nat}{f:FuncId}{g:aO}{fn:Func}{sh:Shape}{k:List Item}{x:sh.T}{y:g.B}(h:oz P Eqs Sg An (Fn P Eqs Sg An G m) f g fn m sh k x=some y):Lp P Eqs Sg An G f g fn sh k x=some y:=by
 have he:∃m y,oz P Eqs Sg An (Fn P Eqs Sg An G m) f g fn m sh k x=some y:=⟨m,y,h⟩
 cases hy:Lp P Eqs Sg An G f g fn sh k x with
 |none=>simp_all [Lp,dif_pos]
 |some y' =>obtain⟨m1,h1⟩:=Vi sh k x y' hy;have h2:=h1 (max m m1) (by omega);have h3:=qq (C2 (show m≤max m m1 by omega)) m (max m m1) sh k x y (by omega) h;simp_all
theorem Qg{f:FuncId}{g:aO}{x:g.A}{y:g.B}{fn:Func}{c:Code}(hG:G f g=none)(hb:body P (f%1000)=some (fn,c))(hc:(decide (g.ps.length≤fn.ntmps)&&decide (g.bs.length≤8))=true) (h:aI P Eqs Sg (Fix P Eqs Sg An G) fn.ntmps (An f) (Lp P Eqs Sg An G f g fn) (tI P g fn) fuel [.code c] (entry g x)=some y):Fix P Eqs Sg An G f g x=some y:=by obtain⟨m,hm⟩:=iL (JF (P:=P) (Eqs:=Eqs) (Sg:=Sg) (An:=An) (G:=G)) (Vi (f:=f) (g:=g) (fn:=fn)) _ _ _ _ h;refine Vh (m:=m+1) ?_;simp_all [Fn,NY,if_pos,Nat.le_refl]
theorem HX{f:FuncId}{g:aO}{x:g.A}{y:g.B}{u:g.A→Option g.B}(hG:G f g=some u)(h:u x=some y):Fix P Eqs Sg An G f g x=some y:=by
 refine Vh (m:=0) ?_
 grind [Fn]
theorem Vj{f:FuncId}{g:aO}{fn:Func}{sh:Shape}{c:Code}{k:List Item}{x:sh.T}{y:g.B} (h:aI P Eqs Sg (Fix P Eqs Sg An G) fn.ntmps (An f) (Lp P Eqs Sg An G f g fn) (tI P g fn) fuel (.code c::.inLoop c::k) (aA sh x)=some y):Lp P Eqs Sg An G f g fn sh (.inLoop c::k) x=some y:=by obtain⟨m,hm⟩:=iL (JF (P:=P) (Eqs:=Eqs) (Sg:=Sg) (An:=An) (G:=G)) (Vi (f:=f) (g:=g) (fn:=fn)) _ _ _ _ h;refine afP (m:=m+1) ?_;simp only[oz];refine(iL (L:=Fn P Eqs Sg An G m) (FLe.to (C1 m)) (J:=fun _=>oz P Eqs Sg An (Fn P Eqs Sg An G (m+1)) f g fn m) (JL:=oz P Eqs Sg An (Fn P Eqs Sg An G m) f g fn m) (fun sh k x y hy=>.now fun _=>qq (C1 m) m m sh k x y (abX _) hy) _ _ _ _ (hm m (abX _))).get
theorem C3(hX:∀f g u,Sg f=some g→g.x=some u→hZ P (f%1000) u)(Gt:∀t k,Eqs t=some k→nE P t k)(Sk:∀f g,Sg f=some g→kb P (f%1000))(hm:P.follows .mixedOrders=true) (hG:∀f g u x y,Sg f=some g→G f g=some u→u x=some y→HM P f g x y) {f:FuncId} {g:aO} {x:g.A} {y:g.B} (hs:Sg f=some g) (h:Fix P Eqs Sg An G f g x=some y):HM P f g x y:=by obtain⟨m,UC⟩:=JF f g x y h;exact LF hX Gt Sk hm hG m f g x y hs (UC m (abX _))
end
end Go.Vs
namespace Go.Vs
open Go.Proofs
abbrev ag:=((Int×Int)×Int)
abbrev ID:=(Int×Int)
abbrev an:=(ID×((List ag)×(ByteArray×Int)))
abbrev aj:=(ID×(ByteArray×Int))
abbrev ar:=((List an)×(List aj))
abbrev aC:=(ag×ag)
abbrev StateT:=(ar×(List aC))
abbrev xV:=(ID×ag)
abbrev bP:=(Int×(ID×(ID×(ID×(xV×(xV×(Bool×(ByteArray×Int))))))))
abbrev aV:=((List an)×((List aj)×((List aC)×Unit)))
abbrev lI{α:Type}(l:List α):Int:=((l.length:Nat):Int)
abbrev wI(n:Int):Int:=IntKind.wrap .i64 n
abbrev OI:ID:=(0,0)
abbrev OD:ag:=(OI,0)
abbrev OC:xV:=(OI,OD)
abbrev OB:ByteArray:=⟨#[]⟩
abbrev OS:StateT:=(([],[]),[])
abbrev OW:aV:=([],([],([],())))
abbrev k13:K:=(.pair .str (.int .u64))
abbrev fQ:K:=(.pair (.int .i64) (.int .i64))
abbrev k68:K:=(.pair .str (.pair (.int .i64) .bool))
abbrev bz:K:=(.pair fQ (.int .i64))
abbrev k7:K:=(.pair (.int .i64) (.pair (.int .i64) (.pair .bool (.int .u8))))
abbrev dG:K:=(.pair fQ (.pair .str (.int .i64)))
abbrev k33:K:=(.pair fQ bz)
abbrev cQ:K:=(.pair bz bz)
abbrev dh:K:=(.pair fQ (.pair (.sl bz) (.pair .str (.int .i64))))
abbrev dX:K:=(.pair (.sl dh) (.sl dG))
abbrev pO:K:=(.pair dX (.sl cQ))
abbrev KM:K:=(.pair (.int .i64) (.pair fQ (.pair fQ (.pair fQ (.pair k33 (.pair k33 (.pair .bool (.pair .str (.int .i64)))))))))
abbrev NK:K:=(.one (.sl KM))
def rN(xs:List an)(ys:List aj):Bool:=decide (xs.length≤50000000)&&(decide (ys.length≤50000000)&&xs.all fun v=>decide (v.2.1.length≤50000000))
def JG(h:Heap)(id:Nat):List AV→Option (Bool×bD)
 |[.agg [.bO a,.bO b]]=>match fa h (.row 38 dh) (.bO a),fa h (.row 84 dG) (.bO b) with
  |some xs,some ys=>if a=b then none else some (rN xs ys,.new (.agg [.bO (id+128),.bO (id+129)]) [(id+128,.own (.row 38 dh) xs),(id+129,.own (.row 84 dG) ys)])
  |_,_=>none
 |_=>none
abbrev aeV(a:List PK)(b:List RK):aO:={ ps:=a,bs:=[],rs:=b }
abbrev aeW:K:=.int .i64
def SJ:=aeV [.val pO,.val pO] [.val .bool]
def JH:=aeV [.val dX,.val fQ] [.val dh,.val .bool]
def JI:=aeV [.val fQ] [.val .bool]
def Eu:=aeV [.val dX,.val bz] [.val fQ,.val .bool]
def JJ:=aeV [.val dX,.val fQ] [.val dG,.val .bool]
def LH:=aeV [.val dX,.val bz] [.val (.sl bz)]
def SK:=aeV [.val bz] [.val bz]
def Ev:=aeV [.val (.sl bz),.val bz] [.val aeW]
def Ew:=aeV [.val dX,.val dX] [.val .bool]
def CA:=aeV [.val .str] [.val .bool]
def Ex:=aeV [.val aeW] [.val .bool]
def Vk:=aeV [.val pO,.val NK] [.val pO,.val aeW]
def LI:=aeV [.val dX] [.own (.row 36 (.sl bz))]
def LJ:=aeV [.val dX] [.val aeW]
def LK:=aeV [.val pO,.val NK] [.val pO]
def SL:=aeV [.val dX] [.val aeW]
def Vl:=aeV [.val KM] [.val aeW]
def LL:=aeV [.val pO,.val (.sl KM)] [.val pO,.val aeW]
def JK:=aeV [.val (.sl cQ),.val (.sl cQ)] [.val .bool]
def SM:=aeV [.val dX,.val bz] [.val bz,.val .bool]
def GX:=aeV [.val dX,.val fQ] [.val aeW]
def vT:=aeV [.val dX] [.own (.row 3 aeW)]
def JM:=aeV [.val (.sl bz),.val (.sl bz)] [.val .bool]
def JN:=aeV [.val NK] [.val aeW]
def JO:=aeV [.val dX] [.own (.row 40 bz)]
def JP:=aeV [.val dX] [.agg [.own (.row 38 dh),.own (.row 84 dG)]]
def LM:=aeV [.val (.sl cQ)] [.own (.row 42 cQ)]
def OG:=aeV [.val bz,.val bz] [.val aeW]
def CB:=aeV [.val dX] [.val aeW]
def Vm:=aeV [.val dX] [.val aeW]
def Vn:=aeV [.val KM] [.val KM,.val aeW]
def JQ:aO:={ ps:=[.ref,.val KM],bs:=[.box 128 [.own (.row 38 dh),.own (.row 84 dG),.val (.sl cQ)]],rs:=[.val aeW] }
def OH:=aeV [.val fQ,.val fQ] [.val aeW]
def Ey:=aeV [.val (.sl bz)] [.own (.row 40 bz)]
def Vo:=aeV [.val dX,.val bz] [.val bz,.val .bool]
def SO:=aeV [.val (.sl dh)] [.own (.row 38 dh)]
def SP:=aeV [.val (.sl dG)] [.own (.row 84 dG)]
def CC:=aeV [.val (.sl bz)] [.own (.row 40 bz)]
def CD:=aeV [.val dX] [.val (.sl fQ)]
def yN:=aeV [.val (.sl fQ)] [.val .bool]
def nS:=aeV [.val dX] [.val .bool]
def JR:=aeV [.val dX] [.val aeW,.val aeW,.val aeW,.val aeW]
def rO:=aeV [.val fQ] [.val .bool]
def GY:=aeV [.val k33] [.val .bool]
def yO:=aeV [.val .str] [.val .bool]
def JS:=aeV [.val aeW] [.val .bool]
def LN:aO:={ ps:=[.ref,.val dh],bs:=[.box 128 [.own (.row 38 dh),.own (.row 84 dG),.val (.sl cQ)]],rs:=[.val aeW] }
def Vp:aO:={ ps:=[.ref,.val KM],bs:=[.box 128 [.own (.row 38 dh),.own (.row 84 dG),.val (.sl cQ)]],rs:=[.val aeW] }
def rP:aO:={ ps:=[.ref,.val KM],bs:=[.box 128 [.own (.row 38 dh),.own (.row 84 dG),.val (.sl cQ)]],rs:=[.val aeW] }
def Ez:aO:={ ps:=[.ref,.val KM],bs:=[.box 128 [.own (.row 38 dh),.own (.row 84 dG),.val (.sl cQ)]],rs:=[.val aeW] }
def CE:aO:={ ps:=[.ref,.val KM],bs:=[.box 128 [.own (.row 38 dh),.own (.row 84 dG),.val (.sl cQ)]],rs:=[.val aeW] }
def tU:aO:={ ps:=[.ref,.val KM],bs:=[.box 128 [.own (.row 38 dh),.own (.row 84 dG),.val (.sl cQ)]],rs:=[.val aeW] }
def Vq:aO:={ ps:=[.ref,.val KM],bs:=[.box 128 [.own (.row 38 dh),.own (.row 84 dG),.val (.sl cQ)]],rs:=[.val aeW] }
def SQ:=aeV [.val bz] [.val .bool]
def LO:=aeV [.val (.sl bz),.val bz] [.val bz,.val .bool]
def qu:=aeV [.val dX,.val bz] [.val aeW]
def EA:=aeV [.val bz] [.val .bool]
def sP:aO:={ ps:=[.ref,.val fQ],bs:=[.box 128 [.own (.row 38 dh),.own (.row 84 dG),.val (.sl cQ)]],rs:=[.val aeW,.val .bool] }
def abi:aO:={ ps:=[],bs:=[],rs:=[],x:=some (Uf 38 dh) }
def abj:aO:={ ps:=[],bs:=[],rs:=[],x:=some (Y3 38 dh) }
def B3:aO:={ ps:=[.ref,.val fQ],bs:=[.box 128 [.own (.row 38 dh),.own (.row 84 dG),.val (.sl cQ)]],rs:=[.val aeW] }
def EB:=aeV [.val fQ] [.val bz,.val bz]
def LP:=aeV [.val pO,.val k33] [.val k33,.val aeW]
def EC:=aeV [.val (.sl bz),.val bz,.val bz] [.own (.row 40 bz)]
def B4:=aeV [.val dX] [.val .bool]
def oV:aO:={ ps:=[.ref,.val fQ],bs:=[.box 128 [.own (.row 38 dh),.own (.row 84 dG),.val (.sl cQ)]],rs:=[.val aeW,.val .bool] }
def ED:aO:={ ps:=[.ref,.val bz,.val bz],bs:=[.box 128 [.own (.row 38 dh),.own (.row 84 dG),.val (.sl cQ)]],rs:=[] }
def EE:aO:={ ps:=[.ref,.val bz],bs:=[.box 128 [.own (.row 38 dh),.own (.row 84 dG),.val (.sl cQ)]],rs:=[.val bz] }
def nT:aO:={ ps:=[.ref,.val bz],bs:=[.box 128 [.own (.row 38 dh),.own (.row 84 dG),.val (.sl cQ)]],rs:=[.fF 0 [(0,5,0)]] }
def LQ:=aeV [.val (.sl bz),.val bz] [.own (.row 40 bz)]
def abk:aO:={ ps:=[],bs:=[],rs:=[],x:=some (Y3 84 dG) }
def wD:=aeV [.val (.sl bz),.val bz,.val bz] [.own (.row 40 bz)]
def qv:=aeV [.val bz] [.val bz]
def sQ:=aeV [.val (.sl bz)] [.own (.row 40 bz)]
def LR:aO:={ ps:=[.ref,.val KM],bs:=[.box 128 [.own (.row 38 dh),.own (.row 84 dG),.val (.sl cQ)]],rs:=[.fF 0 [(0,5,3),(1,4,2)],.fF 0 [(0,5,4),(1,4,3)]] }
def HY:=aeV [.val dh,.val fQ] [.val aeW]
def B5:=aeV [.val fQ,.val fQ] [.val aeW]
def abl:aO:={ ps:=[],bs:=[],rs:=[],x:=some (Uf 84 dG) }
def LS:=aeV [.val dX,.val fQ] [.val dh,.val .bool]
def B6:=aeV [.val pO,.val bz] [.val bz]
def yP:=aeV [.val (.sl bz),.val bz] [.val .bool]
def nV:=aeV [.val (.sl bz),.val bz] [.val aeW]
def qw:=aeV [.val (.sl (.sl bz))] [.own (.row 40 bz)]
def LU:=aeV [.val dX] [.val aeW]
def HZ:=aeV [.val dG,.val fQ] [.val aeW]
def LV:=aeV [.val (.sl cQ),.val cQ] [.own (.row 42 cQ)]
def H3:=aeV [.val (.sl bz),.val bz] [.val bz,.val .bool]
def B7:=aeV [.val bz,.val bz] [.val aeW]
def qx:=aeV [.val (.sl (.sl bz))] [.own (.row 40 bz)]
def yQ:=aeV [.val (.sl aeW)] [.val aeW]
def EF:=aeV [.val aeW,.val aeW] [.val aeW]
def EG:=aeV [.val dh] [.val fQ]
def yR:=aeV [.val dX,.val bz] [.val fQ,.val .bool]
def LW:=aeV [.val (.sl cQ),.val bz] [.val bz,.val .bool]
def LY:=aeV [.val dX] [.val aeW,.val aeW,.val aeW,.val aeW]
def H4:=aeV [.val cQ,.val bz] [.val aeW]
def abm:aO:={ ps:=[],bs:=[],rs:=[],x:=some (Uf 42 cQ) }
def EH:=aeV [.val (.sl bz),.val bz,.val aeW] [.val bz,.val .bool]
def abn:aO:={ ps:=[],bs:=[],rs:=[],x:=some (Ug 40 bz) }
def EI:=aeV [.val aeW] [.val .bool]
def LZ:aO:={ ps:=[.val cQ,.ref],bs:=[.box 40 [.val aeW,.val aeW,.val aeW]],rs:=[.val .bool] }
def L0:=aeV [.val dh] [.val .bool]
def B8:=aeV [.val dX] [.own (.row 36 (.sl bz))]
def B9:=aeV [.val dX] [.val aeW]
def yS:=aeV [.val dX] [.own (.row 40 bz)]
def abo:=aeV [.val dX] [.own (.row 163 (.sl fQ))]
def H5:=aeV [.val dX,.val bz] [.val bz,.val .bool]
def jn:=aeV [.val dX] [.own (.row 3 aeW)]
def Ca:=aeV [.val dX,.val bz] [.val bz,.val .bool]
def L3:aO:={ ps:=[.own,.val aeW,.val aeW],bs:=[.own (.row 3 aeW)],rs:=[] }
def tV:aO:={ ps:=[.own,.val aeW],bs:=[.own (.row 3 aeW)],rs:=[.val aeW] }
def L4:=aeV [.val (.sl bz),.val bz] [.val bz,.val .bool]
def kd:=aeV [.val (.sl dh),.val fQ,.xT 188 0] [.val aeW,.val .bool]
def ke:=aeV [.val (.sl dG),.val fQ,.xT 198 0] [.val aeW,.val .bool]
def lS:=aeV [.val (.sl bz),.xT 73 0] [.val bz]
def lT:=aeV [.val (.sl dh),.xT 135 0,.val fQ] [.val dh,.val .bool]
def kf:=aeV [.val (.sl cQ),.val bz,.xT 219 0] [.val aeW,.val .bool]
def kg:aO:={ ps:=[.val (.sl cQ),.xT 231 1],bs:=[.box 40 [.val bz]],rs:=[.val aeW] }
def lU:=aeV [.val (.sl dh),.xT 206 0] [.val aeW]
def L5:aO:={ ps:=[],bs:=[],rs:=[],x:=some JG }
def Vr:=aeV [] []
abbrev k98:K:=(.pair NK fQ)
abbrev Qh:K:=(.pair pO (.pair aeW (.sl NK)))
abbrev fb:=(StateT×(Int×((List (List bP))×Unit)))
abbrev Qi:=(((List Int)×(Int×Unit))×Unit)
abbrev Q48:=((Int×(StateT×(Int×Unit)))×Unit)
abbrev Q49:=((Int×((List Int)×(Bool×Unit)))×Unit)
abbrev Q50:=((Int×Unit)×(((List Int)×(Bool×Unit))×Unit))
abbrev Q51:=((ID×((List Int)×(Bool×Unit)))×Unit)
abbrev H6:=(((List Int)×Unit)×Unit)
abbrev Q44:=((Bool×Unit)×((Unit×Unit)×Unit))
abbrev Q45:=(((List Bool)×Unit)×Unit)
abbrev Q46:=((Int×Unit)×((Unit×Unit)×Unit))
abbrev Q40:=((List bP)×ID)
abbrev Q41:=(((List (List bP))×(Int×Unit))×(fb×Unit))
abbrev Q42:=((StateT×Unit)×(fb×Unit))
abbrev Q0:=((Bool×Unit)×Unit)
abbrev Q1:=((StateT×(Int×Unit))×Unit)
abbrev Q2:=((Int×Unit)×Unit)
abbrev Q3:=(((List bP)×Unit)×Unit)
abbrev Q4:=((StateT×Unit)×Unit)
abbrev Q5:=((ar×Unit)×Unit)
abbrev Q6:=(((List ag)×Unit)×Unit)
abbrev Q7:=((an×(Bool×Unit))×Unit)
abbrev Q8:=(List bP)
abbrev Q9:=((Int×Unit)×(fb×Unit))
abbrev Q10:=((aj×(Bool×Unit))×Unit)
abbrev SR:=((ag×Unit)×Unit)
abbrev YN:=((ag×(Bool×Unit))×Unit)
abbrev Q13:=((ID×(Bool×Unit))×Unit)
abbrev OJ:=((Int×(Bool×Unit))×(aV×Unit))
abbrev Q15:=((StateT×(bP×Unit))×Unit)
abbrev Q16:=((StateT×((List bP)×Unit))×Unit)
abbrev Q17:=(((List (List bP))×Unit)×Unit)
abbrev Q18:=(((List aC)×Unit)×Unit)
abbrev Vt:=((Int×Unit)×(aV×Unit))
abbrev Q20:=((ar×(ag×Unit))×Unit)
abbrev Q21:=(((List ag)×(ag×Unit))×Unit)
abbrev Q22:=((bP×Unit)×(aV×Unit))
abbrev Q23:=((StateT×Unit)×((List (List bP))×Unit))
abbrev Q24:=(((List bP)×(Int×Unit))×Unit)
abbrev Q25:=(((List (List ag))×Unit)×Unit)
abbrev Q26:=((((List an)×((List aj)×Unit))×Unit)×Unit)
abbrev Q27:=((xV×Unit)×Unit)
abbrev Q28:=((Int×(Int×Unit))×(fb×Unit))
abbrev Q29:=((StateT×((List (List bP))×Unit))×Unit)
abbrev Q30:=((ar×(ID×Unit))×Unit)
abbrev Q31:=(((Option ((Fin 1)×Nat))×Unit)×(aV×Unit))
abbrev Q32:=(Unit×(fb×Unit))
abbrev Q33:=((ag×(ag×Unit))×Unit)
abbrev Q34:=(((List ag)×(ag×(ag×Unit)))×Unit)
abbrev Q35:=((Int×Unit)×((List Int)×Unit))
abbrev Q36:=((StateT×(Int×Unit))×(fb×Unit))
abbrev Q37:=(((List Bool)×Unit)×((List (List bP))×Unit))
abbrev Q38:=((Bool×(Int×Unit))×(((StateT×Unit)×((bP×Unit)×(aV×(((List an)×((List aj)×Unit))×Unit))))×Unit))
abbrev Q39:=((Int×Unit)×((aV×((ag×Unit)×((ag×Unit)×((ag×Unit)×Unit))))×Unit))
def ac8(_:Heap)(id:Nat):List AV→Option (Bool×bD)
 |[]=>some (true,.new (.ref (id+128) 0 0 0) [(id+128,.box 94 (enc Qh (kC Qh)))])
 |_=>none
def OL(h:Heap)(_:Nat):List AV→Option (Bool×bD)
 |[.ref i 0 0 0]=>match Dv h i 94 with
  |some cs=>match dM Qh cs with
   |some x=>some (true,.val (.int .i64 x.2.1))
   |none=>none
  |none=>none
 |_=>none
def aoW(h:Heap)(id:Nat):List AV→Option (Bool×bD)
 |[.ref i 0 0 0]=>match Dv h i 94 with
  |some cs=>match dM Qh cs with
   |some x=>some (true,.new (.ref (id+128) 0 0 0) [(id+128,.box 94 (enc Qh x))])
   |none=>none
  |none=>none
 |_=>none
def Vu(_:Heap)(_:Nat):List AV→Option (Bool×bD)
 |[.sl _ k xs]=>some (true,.val (.sl true k xs))
 |[.gq]=>some (true,.val .gq)
 |_=>none
def H7:=aeV [.val pO,.val (.sl NK)] [.val pO]
def L6:=aeV [] [.val .bool]
def L7:aO:={ ps:=[.ref,.val NK],bs:=[.box 94 [.val pO,.val aeW,.val (.sl NK)]],rs:=[.val aeW,.val aeW] }
def L8:=aeV [.val aeW] [.val NK]
def L9:aO:={ ps:=[.ref,.val aeW],bs:=[.box 94 [.val pO,.val aeW,.val (.sl NK)]],rs:=[.val aeW] }
def Cb:aO:={ ps:=[.ref],bs:=[.box 94 [.val pO,.val aeW,.val (.sl NK)]],rs:=[.val aeW] }
def abt:aO:={ ps:=[],bs:=[],rs:=[],x:=some OL }
def Ma:aO:={ ps:=[.ref,.val aeW],bs:=[.box 94 [.val pO,.val aeW,.val (.sl NK)]],rs:=[.val pO,.val aeW] }
def Mb:=aeV [.val pO,.val NK] []
def Mc:=aeV [.val (.sl KM)] [.val (.sl KM)]
def tW:=aeV [.val (.sl (.int .u8)),.val (.sl (.int .u8))] [.val .bool]
def jU:=aeV [.val dX] [.own (.row 5 (.int .u8)),.val aeW]
def EJ:=aeV [.val (.sl (.int .u8)),.val fQ] [.own (.row 5 (.int .u8))]
def Md:=aeV [.val dG] [.val fQ]
def H8:=aeV [.val dX] [.val aeW]
def H9:=aeV [.val (.sl (.int .u8)),.val dG] [.own (.row 5 (.int .u8))]
def Ia:=aeV [.val dX] [.val aeW]
def sR:=aeV [.val (.sl (.int .u8)),.val aeW] [.own (.row 5 (.int .u8))]
def Me:=aeV [.val (.sl (.int .u8)),.val .str] [.own (.row 5 (.int .u8))]
def tX:=aeV [.val (.sl fQ)] [.val .bool]
def jV:=aeV [.val dX] [.val .bool]
def Ib:=aeV [.val .str,.val aeW] [.val .bool]
def Ic:=aeV [.val .str,.val aeW] [.val .bool]
def abu:aO:={ ps:=[],bs:=[],rs:=[],x:=some Vu }
def wE:=aeV [.val (.sl bz),.val (.sl bz)] [.val .bool]
def lV:=aeV [.val pO,.val (.sl NK),.xT 36 0] [.val pO]
def abv:aO:={ ps:=[],bs:=[],rs:=[],x:=some ac8 }
def SS:=aeV [] []
def SU:=aeV [] []
def Vv:=aeV [] []
def SV:=aeV [] []
def lW:=aeV [.val (.sl dh),.xT 135 0] [.own (.row 35 fQ)]
def lY:=aeV [.val (.sl dG),.xT 137 0] [.own (.row 35 fQ)]
def qy:=aeV [.val dX,.xT 140 0] [.val .bool]
def qz:=aeV [.val dX,.xT 142 0] [.val .bool]
def gO:aO:={ ps:=[.val (.sl dh),.xT 180 1],bs:=[.box 169 [.val (.fn 140)]],rs:=[.val .bool] }
def gP:aO:={ ps:=[.val (.sl dh),.xT 180 1],bs:=[.box 169 [.val (.fn 142)]],rs:=[.val .bool] }
def bF:aO:={ ps:=[.val (.sl dh),.xT 180 1],bs:=[.box 169 [.val (.fn 140)]],rs:=[.val aeW] }
def bG:aO:={ ps:=[.val (.sl dh),.xT 180 1],bs:=[.box 169 [.val (.fn 142)]],rs:=[.val aeW] }
def gQ:aO:={ ps:=[.val (.sl dG),.xT 182 1],bs:=[.box 169 [.val (.fn 140)]],rs:=[.val .bool] }
def gR:aO:={ ps:=[.val (.sl dG),.xT 182 1],bs:=[.box 169 [.val (.fn 142)]],rs:=[.val .bool] }
def bH:aO:={ ps:=[.val (.sl dG),.xT 182 1],bs:=[.box 169 [.val (.fn 140)]],rs:=[.val aeW] }
def bI:aO:={ ps:=[.val (.sl dG),.xT 182 1],bs:=[.box 169 [.val (.fn 142)]],rs:=[.val aeW] }
def gS:aO:={ ps:=[.val dh,.ref],bs:=[.box 169 [.val (.fn 140)]],rs:=[.val .bool] }
def gT:aO:={ ps:=[.val dh,.ref],bs:=[.box 169 [.val (.fn 142)]],rs:=[.val .bool] }
def gV:aO:={ ps:=[.val dG,.ref],bs:=[.box 169 [.val (.fn 140)]],rs:=[.val .bool] }
def gW:aO:={ ps:=[.val dG,.ref],bs:=[.box 169 [.val (.fn 142)]],rs:=[.val .bool] }
def kE:=aeV [.val dX] [.own (.row 5 (.int .u8)),.val aeW]
def qA:=aeV [.val (.sl (.int .u8)),.val aeW] [.own (.row 5 (.int .u8))]
def Cc:=aeV [.val (.sl (.int .u8)),.val fQ] [.own (.row 5 (.int .u8))]
def Ie:=aeV [.val (.sl (.int .u8)),.val .str] [.own (.row 5 (.int .u8))]
def Cd:=aeV [.val dX,.val fQ] [.val aeW]
def mu:=aeV [.val aeW,.val pO] [.own (.row 5 (.int .u8)),.val aeW]
def oW:=aeV [.val (.sl (.int .u8))] [.val aeW,.val pO,.val aeW]
def sS:=aeV [.val (.sl cQ)] [.val .bool]
def qB:=aeV [.val (.sl (.int .u8))] [.val aeW,.val (.sl (.int .u8)),.val .bool]
def eT:=aeV [.val (.sl (.int .u8))] [.val dX,.val aeW]
def Ig:=aeV [.val (.sl (.int .u8))] [.val cQ,.val (.sl (.int .u8)),.val .bool]
def wF:aO:={ ps:=[.ref],bs:=[.box 116 [.val (.sl (.int .u8)),.val .bool]],rs:=[.val aeW] }
def Ce:aO:={ ps:=[.ref],bs:=[.box 116 [.val (.sl (.int .u8)),.val .bool]],rs:=[.val dG] }
def Ih:=aeV [.val (.sl (.int .u8))] [.val (.sl (.int .u8)),.val (.sl (.int .u8)),.val .bool]
def mw:=aeV [.val (.sl (.int .u8))] [.val fQ,.val (.sl (.int .u8)),.val .bool]
def Mf:=aeV [.val (.sl (.int .u8))] [.val .str,.val (.sl (.int .u8)),.val .bool]
def Ii:=aeV [.val aeW,.val pO,.val (.sl (.int .u8))] [.val .bool]
def kF:=aeV [.val pO] [.val pO]
def nW:=aeV [.val aeW,.val pO] [.own (.row 5 (.int .u8)),.val aeW]
def oX:=aeV [.val (.sl (.int .u8))] [.val aeW,.val pO,.val aeW]
def yT:=aeV [.val (.sl cQ)] [.val .bool]
def sV:=aeV [.val (.sl (.int .u8))] [.val aeW,.val (.sl (.int .u8)),.val .bool]
def dL:=aeV [.val (.sl (.int .u8))] [.val dX,.val aeW]
def Ij:=aeV [.val (.sl (.int .u8))] [.val cQ,.val (.sl (.int .u8)),.val .bool]
def Ik:=aeV [.val (.sl (.int .u8))] [.val dG,.val (.sl (.int .u8)),.val .bool]
def wG:=aeV [.val (.sl (.int .u8))] [.val fQ,.val (.sl (.int .u8)),.val .bool]
def Mg:=aeV [.val (.sl (.int .u8))] [.val .str,.val (.sl (.int .u8)),.val .bool]
def sgs:List (Nat×aO):=[(14,SJ),(87,JH),(104,JI),(174,Eu),(123,JJ),(210,LH),(131,SK),(170,Ev),(37,Ew),(122,CA),(121,Ex),(40,Vk),(185,LI),(186,LJ),(62,LK),(69,SL),(82,Vl),(64,LL),(38,JK),(226,SM),(227,GX),(211,vT),(63,JM),(59,JN),(209,JO),(83,JP),(84,LM),(75,OG),(98,CB),(99,Vm),(108,Vn),(85,JQ),(105,OH),(132,Ey),(237,Vo),(109,SO),(110,SP),(111,CC),(146,CD),(147,yN),(148,nS),(149,JR),(100,rO),(151,GY),(141,yO),(143,JS),(112,LN),(113,Vp),(114,rP),(115,Ez),(116,CE),(117,tU),(118,Vq),(74,SQ),(243,LO),(184,qu),(72,EA),(152,sP),(153,abi),(154,abj),(155,B3),(156,EB),(157,LP),(158,EC),(96,B4),(159,oV),(160,ED),(161,EE),(162,nT),(163,LQ),(164,abk),(165,wD),(166,qv),(167,sQ),(168,LR),(188,HY),(102,B5),(191,abl),(192,LS),(193,B6),(194,yP),(195,nV),(196,qw),(144,LU),(198,HZ),(199,LV),(200,H3),(73,B7),(202,qx),(101,yQ),(103,EF),(135,EG),(216,yR),(217,LW),(183,LY),(219,H4),(220,abm),(221,EH),(222,abn),(150,EI),(231,LZ),(206,L0),(207,B8),(208,B9),(223,yS),(225,abo),(235,H5),(236,jn),(240,Ca),(241,L3),(242,tV),(245,L4),(189187,kd),(199197,ke),(74201,lS),(136215,lT),(220218,kf),(232230,kg),(207205,lU),(500083,L5),(900059,Vr),(13,H7),(20,L6),(29,L7),(47,L8),(31,L9),(32,Cb),(33,abt),(61,Ma),(36,Mb),(60,Mc),(46,tW),(42,jU),(43,EJ),(137,Md),(67,H8),(68,H9),(95,Ia),(49,sR),(97,Me),(133,tX),(138,jV),(140,Ib),(142,Ic),(145,abu),(178,wE),(37035,lV),(28,abv),(2514003,SS),(3537003,SU),(900022,Vv),(2769003,SV),(136134,lW),(138136,lY),(141139,qy),(143139,qz),(14100181179,gO),(14300181179,gP),(14100181203,bF),(14300181203,bG),(14100183181,gQ),(14300183181,gR),(14100183204,bH),(14300183204,bI),(14100000180,gS),(14300000180,gT),(14100000182,gV),(14300000182,gW),(44,kE),(51,qA),(52,Cc),(70,Ie),(71,Cd),(22,mu),(24,oW),(48,sS),(53,qB),(54,eT),(55,Ig),(76,wF),(77,Ce),(78,Ih),(79,mw),(106,Mf),(6,Ii),(21,kF),(23,nW),(25,oX),(50,yT),(56,sV),(57,dL),(58,Ij),(80,Ik),(81,wG),(107,Mg)]
def Sg(f:FuncId):Option aO:=(sgs.find? (fun p=>p.1==f)).map (fun p=>p.2)
def eqs:List (Nat×K):=[(35,fQ),(40,bz),(98,k33),(100,KM),(84,dG),(42,cQ)]
def Eqs(t:TypeId):Option K:=(eqs.find? (fun p=>p.1==t)).map (fun p=>p.2)
def EK:Shape:=⟨[(6,.int .i64)],[(.slot 2,20000,.box 27 [.val dX]),(.slot 3,20001,.box 35 [.val fQ]),(.slot 4,20002,.box 38 [.val aeW,.val aeW,.own (.row 40 bz),.val .str,.val aeW])],[],[]⟩
def EL:Shape:=⟨[(6,.int .i64)],[(.slot 2,20000,.box 27 [.val dX]),(.slot 3,20001,.box 40 [.val bz]),(.slot 4,20002,.box 35 [.val fQ])],[],[]⟩
def EM:Shape:=⟨[(6,.int .i64)],[(.slot 2,20000,.box 27 [.val dX]),(.slot 3,20001,.box 35 [.val fQ]),(.slot 4,20002,.box 84 [.val dG])],[],[]⟩
def EN:Shape:=⟨[],[(.slot 2,20000,.box 27 [.val dX]),(.slot 3,20001,.box 40 [.val bz]),(.slot 6,20002,.box 40 [.val bz])],[(5,31000,(.row 40 bz))],[]⟩
def EO:Shape:=⟨[(0,.sl bz),(5,.int .i64)],[(.slot 3,20000,.box 40 [.val bz])],[],[]⟩
def EP:Shape:=⟨[(5,.int .i64)],[(.slot 2,20000,.box 27 [.val dX]),(.slot 3,20001,.box 27 [.val dX])],[],[]⟩
def ER:Shape:=⟨[(9,.int .i64)],[(.slot 2,20000,.box 27 [.val dX]),(.slot 3,20001,.box 27 [.val dX])],[],[]⟩
def ES:Shape:=⟨[(0,.str),(3,.int .i64)],[],[],[]⟩
def AM:Shape:=⟨[(6,.int .i64)],[(.slot 1,20000,.box 27 [.val dX])],[(3,31000,(.row 36 (.sl bz))),(4,31001,(.row 40 bz)),(5,31002,(.row 40 bz))],[]⟩
def AO:Shape:=⟨[(4,.int .i64),(5,.int .i64)],[],[(3,31000,(.row 3 aeW))],[]⟩
def ET:Shape:=⟨[(18,.sl KM),(19,.int .i64),(20,.int .i64)],[(.slot 4,20000,.box 30 [.own (.row 38 dh),.own (.row 84 dG),.own (.row 42 cQ)]),(.slot 6,20001,.box 128 [.own (.row 38 dh),.own (.row 84 dG),.val (.sl cQ)])],[],[]⟩
def EU:Shape:=⟨[(0,.sl cQ),(1,.sl cQ),(5,.int .i64)],[],[],[]⟩
def EV:Shape:=⟨[(5,.int .i64)],[(.slot 2,20000,.box 27 [.val dX]),(.slot 3,20001,.box 35 [.val fQ])],[],[]⟩
def EW:Shape:=⟨[(4,.int .i64)],[(.slot 1,20000,.box 27 [.val dX])],[(3,31000,(.row 3 aeW))],[]⟩
def AP:Shape:=⟨[(5,.int .i64)],[(.slot 1,20000,.box 27 [.val dX])],[(3,31000,(.row 3 aeW))],[]⟩
def tY:Shape:=⟨[(5,.int .i64),(6,.int .i64)],[(.slot 1,20000,.box 27 [.val dX])],[(3,31000,(.row 3 aeW))],[]⟩
def EX:Shape:=⟨[(0,.sl bz),(1,.sl bz),(5,.int .i64)],[],[],[]⟩
def EY:Shape:=⟨[(17,.sl KM),(18,.int .i64),(19,.int .i64)],[],[],[]⟩
def EZ:Shape:=⟨[(4,.int .i64)],[(.slot 1,20000,.box 27 [.val dX])],[(3,31000,(.row 40 bz))],[]⟩
def E0:Shape:=⟨[(14,.int .i64),(15,.int .i64)],[(.slot 2,20000,.box 27 [.own (.row 38 dh),.own (.row 84 dG)]),(.slot 3,20001,.box 27 [.own (.row 38 dh),.own (.row 84 dG)])],[],[]⟩
def AQ:Shape:=⟨[(0,.sl bz),(3,.int .i64),(4,.int .i64)],[],[],[]⟩
def E1:Shape:=⟨[(0,.sl bz),(3,.int .i64),(6,.int .i64)],[],[(5,31000,(.row 40 bz))],[]⟩
def E2:Shape:=⟨[(4,.int .i64)],[(.slot 1,20000,.box 27 [.val dX])],[(3,31000,(.row 35 fQ))],[]⟩
def AR:Shape:=⟨[(5,.int .i64)],[(.slot 1,20000,.box 27 [.val dX])],[(3,31000,(.row 35 fQ))],[]⟩
def AS:Shape:=⟨[(0,.sl fQ),(3,.int .i64)],[],[],[]⟩
def xw:Shape:=⟨[(3,.int .i64)],[(.slot 1,20000,.box 27 [.val dX])],[],[]⟩
def AT:Shape:=⟨[(3,.int .i64),(4,.sl bz),(6,.int .i64)],[(.slot 1,20000,.box 27 [.val dX])],[],[]⟩
def AU:Shape:=⟨[(9,.int .i64)],[(.slot 1,20000,.box 27 [.val dX])],[],[]⟩
def xx:Shape:=⟨[(9,.int .i64),(10,.int .i64)],[(.slot 1,20000,.box 27 [.val dX])],[],[]⟩
def xy:Shape:=⟨[(6,.int .i64),(7,.int .i64)],[(.slot 1,20000,.box 27 [.val dX])],[],[]⟩
def AW:Shape:=⟨[(0,.str)],[],[(6,31000,.pX)],[]⟩
def nX:Shape:=⟨[(48,.int .i64),(49,.int .i64)],[(.slot 0,1000,.box 128 [.own (.row 38 dh),.own (.row 84 dG),.val (.sl cQ)]),(.slot 5,20001,.box 30 [.val pO]),(.slot 7,20002,.box 40 [.val bz])],[(9,31000,(.row 40 bz)),(47,31001,(.row 98 k33))],[]⟩
def JU:Shape:=⟨[(5,.int .i64),(32,.int .i64),(33,.int .i64)],[(.slot 0,1000,.box 128 [.own (.row 38 dh),.own (.row 84 dG),.val (.sl cQ)]),(.slot 7,20001,.box 40 [.val bz]),(.slot 8,20002,.box 40 [.val bz])],[(31,31000,(.row 40 bz))],[]⟩
def AX:Shape:=⟨[(5,.int .i64),(47,.int .i64),(48,.int .i64)],[(.slot 0,1000,.box 128 [.own (.row 38 dh),.own (.row 84 dG),.val (.sl cQ)])],[(46,31000,(.row 40 bz))],[]⟩
def pP:Shape:=⟨[(113,.int .i64)],[(.slot 0,1000,.box 128 [.own (.row 38 dh),.own (.row 84 dG),.val (.sl cQ)]),(.slot 8,20001,.box 40 [.val bz]),(.slot 9,20002,.box 40 [.val bz]),(.slot 10,20003,.box 40 [.val bz])],[],[]⟩
def vl:Shape:=⟨[(5,.int .i64),(6,.int .i64)],[(.slot 2,20000,.box 27 [.val dX]),(.slot 3,20001,.box 40 [.val bz])],[],[]⟩
def rQ:Shape:=⟨[(5,.int .i64),(6,.int .i64),(7,.int .i64)],[(.slot 2,20000,.box 27 [.val dX]),(.slot 3,20001,.box 40 [.val bz])],[],[]⟩
def C4:Shape:=⟨[(7,.int .i64)],[(.slot 0,1000,.box 128 [.own (.row 38 dh),.own (.row 84 dG),.val (.sl cQ)]),(.slot 3,20001,.box 40 [.val bz]),(.slot 4,20002,.box 40 [.val bz]),(.slot 5,20003,.box 40 [.val bz])],[],[]⟩
def yU:Shape:=⟨[(12,.int .i64),(13,.int .i64)],[(.slot 0,1000,.box 128 [.own (.row 38 dh),.own (.row 84 dG),.val (.sl cQ)]),(.slot 3,20001,.box 40 [.val bz])],[],[]⟩
def yV:Shape:=⟨[(12,.int .i64),(13,.int .i64)],[(.slot 2,20000,.box 30 [.val pO]),(.slot 3,20001,.box 40 [.val bz]),(.slot 4,20002,.box 40 [.val bz])],[],[]⟩
def yW:Shape:=⟨[(0,.sl bz),(7,.int .i64),(8,.int .i64)],[(.slot 3,20000,.box 40 [.val bz])],[],[]⟩
def yY:Shape:=⟨[(0,.sl (.sl bz)),(3,.int .i64),(9,.sl (.sl bz)),(10,.int .i64),(11,.int .i64)],[],[],[]⟩
def yZ:Shape:=⟨[(25,.sl (.sl bz)),(26,.int .i64),(27,.int .i64)],[],[(6,31000,(.row 40 bz))],[]⟩
def C5:Shape:=⟨[(3,.int .i64),(6,.sl aeW),(7,.int .i64),(8,.int .i64)],[],[],[]⟩
def zc:Shape:=⟨[(9,.sl dh),(10,.int .i64),(11,.int .i64)],[(.slot 3,20000,.box 40 [.val bz]),(.slot 4,20001,.box 35 [.val fQ])],[],[]⟩
def zd:Shape:=⟨[(8,.sl dG),(9,.int .i64),(10,.int .i64)],[],[(3,31000,(.row 40 bz))],[]⟩
def vm:Shape:=⟨[(18,.sl dh),(19,.int .i64),(20,.int .i64)],[],[(3,31000,(.row 3 aeW)),(4,31001,(.map bz aeW))],[]⟩
def ze:Shape:=⟨[(5,.int .i64),(18,.sl dh),(19,.int .i64),(20,.int .i64),(30,.sl bz),(31,.int .i64),(32,.int .i64)],[],[(3,31000,(.row 3 aeW)),(4,31001,(.map bz aeW))],[]⟩
def rR:Shape:=⟨[(4,.mp bz aeW)],[],[(3,31000,(.row 3 aeW)),(42,31001,(.iter bz aeW))],[]⟩
def zg:Shape:=⟨[(61,.int .i64),(62,.int .i64)],[],[(3,31000,(.row 3 aeW)),(13,31001,(.row 3 aeW))],[]⟩
def zh:Shape:=⟨[(11,.sl dh),(12,.int .i64),(13,.int .i64)],[(.slot 3,20000,.box 40 [.val bz]),(.slot 4,20001,.box 40 [.val bz])],[],[]⟩
def vn:Shape:=⟨[(1,.int .i64)],[],[(0,1000,(.row 3 aeW))],[]⟩
def jI:Shape:=⟨[(0,.sl dh),(8,.int .i64),(9,.int .i64),(10,.int .i64)],[(.slot 4,20000,.box 35 [.val fQ])],[],[(2,188,[])]⟩
def jJ:Shape:=⟨[(0,.sl dG),(8,.int .i64),(9,.int .i64),(10,.int .i64)],[(.slot 4,20000,.box 35 [.val fQ])],[],[(2,198,[])]⟩
def kV:Shape:=⟨[(0,.sl bz),(6,.int .i64)],[(.slot 4,20000,.box 40 [.val bz]),(.slot 5,20001,.box 40 [.val bz])],[],[(1,73,[])]⟩
def nY:Shape:=⟨[(11,.sl dh),(12,.int .i64),(13,.int .i64)],[(.slot 5,20000,.box 35 [.val fQ]),(.slot 6,20001,.box 38 [.val aeW,.val aeW,.own (.row 40 bz),.val .str,.val aeW])],[],[(1,135,[])]⟩
def jK:Shape:=⟨[(0,.sl cQ),(8,.int .i64),(9,.int .i64),(10,.int .i64)],[(.slot 4,20000,.box 40 [.val bz])],[],[(2,219,[])]⟩
def kW:Shape:=⟨[(0,.sl cQ),(7,.int .i64),(8,.int .i64)],[(.cap 1 0,1000,.box 40 [.val bz])],[],[(1,231,[1000])]⟩
def kX:Shape:=⟨[(5,.int .i64),(8,.sl dh),(9,.int .i64),(10,.int .i64)],[],[],[(1,206,[])]⟩
def tZ:Shape:=⟨[(4,.int .i64),(7,.bool),(8,.bool),(9,.int .i64)],[(.slot 1,20000,.box 27 [.val dX])],[],[]⟩
def rS:Shape:=⟨[(7,.bool),(8,.bool),(10,.int .i64)],[(.slot 1,20000,.box 27 [.val dX])],[],[]⟩
def n6:Shape:=⟨[(13,.sl NK),(14,.int .i64),(15,.int .i64)],[(.slot 6,20000,.box 30 [.own (.row 38 dh),.own (.row 84 dG),.own (.row 42 cQ)]),(.slot 7,20001,.box 30 [.val pO])],[],[(2,36,[])]⟩
def vo:Shape:=⟨[(25,.sl dG),(26,.int .i64),(27,.int .i64)],[(.slot 1,20000,.box 27 [.val dX])],[(5,31000,(.map fQ aeW)),(6,31001,(.row 5 (.int .u8)))],[]⟩
def vp:Shape:=⟨[(48,.sl dh),(49,.int .i64),(50,.int .i64)],[],[(5,31000,(.map fQ aeW)),(6,31001,(.row 5 (.int .u8)))],[]⟩
def zi:Shape:=⟨[(48,.sl dh),(49,.int .i64),(50,.int .i64),(71,.sl bz),(72,.int .i64),(73,.int .i64)],[],[(5,31000,(.map fQ aeW)),(6,31001,(.row 5 (.int .u8)))],[]⟩
def rT:Shape:=⟨[(0,.sl (.int .u8)),(1,.int .i64),(14,.int .i64)],[],[(5,31000,(.row 5 (.int .u8)))],[]⟩
def rU:Shape:=⟨[(0,.sl fQ),(5,.sl fQ),(6,.int .i64),(7,.int .i64)],[],[],[]⟩
def vq:Shape:=⟨[(12,.sl dG),(13,.int .i64),(14,.int .i64)],[(.slot 1,20000,.box 27 [.val dX])],[(3,31000,(.map bz .bool))],[]⟩
def rW:Shape:=⟨[(28,.sl dh),(29,.int .i64),(30,.int .i64)],[],[(3,31000,(.map bz .bool))],[]⟩
def rX:Shape:=⟨[(28,.sl dh),(29,.int .i64),(30,.int .i64),(42,.sl bz),(43,.int .i64),(44,.int .i64)],[],[(3,31000,(.map bz .bool))],[]⟩
def vu:Shape:=⟨[(0,.sl bz),(1,.sl bz),(12,.int .i64),(13,.int .i64)],[],[],[]⟩
def n8:Shape:=⟨[(8,.sl dh),(9,.int .i64),(10,.int .i64)],[],[(5,31000,(.row 35 fQ))],[(1,135,[])]⟩
def oa:Shape:=⟨[(8,.sl dG),(9,.int .i64),(10,.int .i64)],[],[(5,31000,(.row 35 fQ))],[(1,137,[])]⟩
def b7:Shape:=⟨[(0,.sl dh),(7,.int .i64),(8,.int .i64)],[(.cap 1 0,1000,.box 169 [.val (.fn 140)])],[],[(1,180,[1000])]⟩
def b8:Shape:=⟨[(0,.sl dh),(7,.int .i64),(8,.int .i64)],[(.cap 1 0,1000,.box 169 [.val (.fn 142)])],[],[(1,180,[1000])]⟩
def cc:Shape:=⟨[(0,.sl dG),(7,.int .i64),(8,.int .i64)],[(.cap 1 0,1000,.box 169 [.val (.fn 140)])],[],[(1,182,[1000])]⟩
def cd:Shape:=⟨[(0,.sl dG),(7,.int .i64),(8,.int .i64)],[(.cap 1 0,1000,.box 169 [.val (.fn 142)])],[],[(1,182,[1000])]⟩
def zj:Shape:=⟨[(6,.int .i64)],[(.slot 1,20000,.box 27 [.val dX])],[(5,31000,(.row 5 (.int .u8)))],[]⟩
def vv:Shape:=⟨[(7,.int .i64)],[(.slot 1,20000,.box 27 [.val dX])],[(5,31000,(.row 5 (.int .u8)))],[]⟩
def zk:Shape:=⟨[(7,.int .i64),(9,.int .i64)],[(.slot 1,20000,.box 27 [.val dX]),(.slot 8,20001,.box 38 [.val dh])],[(5,31000,(.row 5 (.int .u8)))],[]⟩
def rY:Shape:=⟨[(1,.int .i64),(6,.int .i64)],[],[(5,31000,(.row 5 (.int .u8)))],[]⟩
def zm:Shape:=⟨[(5,.int .i64)],[(.slot 2,20000,.box 27 [.val dX]),(.slot 3,20001,.box 35 [.val fQ])],[],[]⟩
def oY:Shape:=⟨[(40,.sl cQ),(41,.int .i64),(42,.int .i64)],[],[(8,31000,(.row 5 (.int .u8)))],[]⟩
def lA:Shape:=⟨[(0,.sl (.int .u8)),(5,.int .i64),(6,.sl (.int .u8)),(11,.int .i64)],[(.slot 3,20000,.box 30 [.own (.row 38 dh),.own (.row 84 dG),.own (.row 42 cQ)]),(.slot 12,20001,.box 30 [.val (.sl dh),.val (.sl dG),.own (.row 42 cQ)])],[],[]⟩
def kh:Shape:=⟨[(0,.sl cQ),(5,.sl cQ),(6,.int .i64),(7,.int .i64)],[],[],[]⟩
def oZ:Shape:=⟨[(0,.sl (.int .u8)),(5,.int .u64),(13,.sl (.int .u8)),(14,.int .i64),(15,.int .i64)],[],[],[]⟩
def mG:Shape:=⟨[(0,.sl (.int .u8)),(6,.int .i64)],[(.slot 2,20000,.box 27 [.own (.row 38 dh),.own (.row 84 dG)]),(.slot 4,20001,.box 116 [.val (.sl (.int .u8)),.val .bool]),(.slot 5,20002,.box 27 [.own (.row 38 dh),.own (.row 84 dG)])],[],[]⟩
def ju:Shape:=⟨[(0,.sl (.int .u8)),(7,.int .i64)],[(.slot 2,20000,.box 27 [.own (.row 38 dh),.own (.row 84 dG)]),(.slot 4,20001,.box 116 [.val (.sl (.int .u8)),.val .bool]),(.slot 5,20002,.box 27 [.own (.row 38 dh),.own (.row 84 dG)])],[],[]⟩
def mH:Shape:=⟨[(0,.sl (.int .u8)),(7,.int .i64),(49,.bool),(50,.bool),(87,.sl (.int .u8)),(88,.int .i64),(89,.int .i64)],[(.slot 2,20000,.box 27 [.own (.row 38 dh),.own (.row 84 dG)]),(.slot 4,20001,.box 116 [.val (.sl (.int .u8)),.val .bool]),(.slot 5,20002,.box 27 [.own (.row 38 dh),.own (.row 84 dG)]),(.slot 9,20003,.box 38 [.val aeW,.val aeW,.own (.row 40 bz),.val .str,.val aeW])],[],[]⟩
def o4:Shape:=⟨[(0,.sl (.int .u8)),(19,.sl (.int .u8)),(20,.int .i64),(21,.int .i64)],[(.slot 2,20000,.box 35 [.val fQ]),(.slot 5,20001,.box 35 [.val fQ])],[],[]⟩
def o5:Shape:=⟨[(4,.int .i64)],[(.slot 1,20000,.box 30 [.val pO]),(.slot 2,20001,.box 30 [.own (.row 38 dh),.own (.row 84 dG),.own (.row 42 cQ)])],[(3,31000,(.row 38 dh))],[]⟩
def rZ:Shape:=⟨[(7,.int .i64)],[(.slot 1,20000,.box 30 [.val pO]),(.slot 2,20001,.box 30 [.own (.row 38 dh),.own (.row 84 dG),.own (.row 42 cQ)])],[(3,31000,(.row 38 dh)),(6,31001,(.row 84 dG))],[]⟩
def r8:Shape:=⟨[(9,.int .i64)],[(.slot 1,20000,.box 30 [.val pO]),(.slot 2,20001,.box 30 [.own (.row 38 dh),.own (.row 84 dG),.own (.row 42 cQ)])],[(3,31000,(.row 38 dh)),(6,31001,(.row 84 dG)),(8,31002,(.row 42 cQ))],[]⟩
def o6:Shape:=⟨[(10,.int .i64)],[(.slot 3,20000,.box 30 [.val pO])],[(9,31000,(.row 5 (.int .u8)))],[]⟩
def mI:Shape:=⟨[(0,.sl (.int .u8)),(5,.int .i64),(6,.sl (.int .u8))],[(.slot 3,20000,.box 30 [.own (.row 38 dh),.own (.row 84 dG),.own (.row 42 cQ)]),(.slot 12,20001,.box 30 [.val (.sl dh),.val (.sl dG),.own (.row 42 cQ)])],[],[]⟩
def mJ:Shape:=⟨[(0,.sl cQ),(3,.int .i64)],[],[],[]⟩
def r9:Shape:=⟨[(0,.sl (.int .u8)),(5,.int .u64),(6,.int .i64)],[],[],[]⟩
def ki:Shape:=⟨[(0,.sl (.int .u8)),(5,.int .i64),(6,.sl (.int .u8)),(7,.int .i64)],[(.slot 2,20000,.box 27 [.own (.row 38 dh),.own (.row 84 dG)]),(.slot 4,20001,.box 27 [.own (.row 38 dh),.own (.row 84 dG)])],[],[]⟩
def jv:Shape:=⟨[(0,.sl (.int .u8)),(5,.int .i64),(6,.sl (.int .u8)),(11,.int .i64),(12,.int .i64)],[(.slot 2,20000,.box 27 [.own (.row 38 dh),.own (.row 84 dG)]),(.slot 4,20001,.box 27 [.own (.row 38 dh),.own (.row 84 dG)])],[],[]⟩
def o8:Shape:=⟨[(0,.sl (.int .u8)),(5,.int .i64),(11,.int .i64),(12,.int .i64),(14,.sl (.int .u8)),(17,.int .i64),(77,.sl (.int .u8)),(78,.int .i64),(79,.bool),(82,.sl (.int .u8)),(83,.int .i64),(84,.sl (.int .u8)),(86,.int .u8),(87,.int .i64),(88,.int .i64),(89,.bool)],[(.slot 2,20000,.box 27 [.own (.row 38 dh),.own (.row 84 dG)]),(.slot 4,20001,.box 27 [.own (.row 38 dh),.own (.row 84 dG)]),(.slot 16,20002,.box 38 [.val aeW,.val aeW,.own (.row 40 bz),.val .str,.val aeW])],[],[]⟩
def ans:List (Nat×List (Nat×Shape)):=[(98,[(12,tZ),(17,rS)]),(87,[(2,EK)]),(174,[(2,EL)]),(123,[(2,EM)]),(210,[(6,EN)]),(170,[(2,EO)]),(37,[(4,EP),(12,ER)]),(122,[(2,ES)]),(185,[(5,AM)]),(186,[(4,AO)]),(64,[(3,ET)]),(38,[(4,EU)]),(227,[(2,EV)]),(211,[(3,EW),(7,AP),(10,tY)]),(63,[(4,EX)]),(59,[(4,EY)]),(209,[(3,EZ)]),(83,[(3,E0)]),(132,[(3,AQ),(9,E1)]),(146,[(3,E2),(7,AR)]),(147,[(2,AS)]),(148,[(2,xw),(9,AT),(15,AU),(18,xx)]),(149,[(3,xy)]),(141,[(2,AW)]),(114,[(8,nX)]),(115,[(6,JU),(11,AX)]),(117,[(19,pP)]),(184,[(3,vl),(6,rQ)]),(161,[(3,C4)]),(162,[(2,yU)]),(193,[(2,yV)]),(195,[(2,yW)]),(202,[(3,yY),(11,yZ)]),(101,[(3,C5)]),(216,[(2,zc)]),(223,[(3,zd)]),(236,[(4,vm),(8,ze),(14,rR),(21,zg)]),(240,[(2,zh)]),(242,[(1,vn)]),(189187,[(3,jI)]),(199197,[(3,jJ)]),(74201,[(5,kV)]),(136215,[(2,nY)]),(220218,[(3,jK)]),(232230,[(2,kW)]),(207205,[(3,kX)]),(37035,[(3,n6)]),(42,[(7,vo),(14,vp),(19,zi)]),(49,[(4,rT)]),(133,[(2,rU)]),(138,[(3,vq),(9,rW),(14,rX)]),(178,[(4,vu)]),(136134,[(3,n8)]),(138136,[(3,oa)]),(14100181203,[(2,b7)]),(14300181203,[(2,b8)]),(14100183204,[(2,cc)]),(14300183204,[(2,cd)]),(44,[(6,zj),(11,vv),(17,zk)]),(51,[(3,rY)]),(71,[(2,zm)]),(22,[(8,oY)]),(24,[(8,lA)]),(48,[(2,kh)]),(53,[(5,oZ)]),(54,[(4,mG),(8,ju),(15,mH)]),(79,[(5,o4)]),(21,[(3,o5),(11,rZ),(16,r8)]),(23,[(9,o6)]),(25,[(10,mI)]),(50,[(2,mJ)]),(56,[(5,r9)]),(57,[(7,ki),(19,jv),(26,o8)])]
def An(f:FuncId)(key:Nat):Option Shape:=(ans.find? (fun p=>p.1==f)).bind fun p=>(p.2.find? (fun q=>q.1==key)).map (fun q=>q.2)
abbrev JT(g:aO):=(sh:Shape)→List Item→sh.T→Option g.B
noncomputable def bN(f:FuncId)(g:aO)(fn:Func)(F:FT)(J:JT g)(x:g.A):Option g.B:=aI Tryz.prog Eqs Sg F fn.ntmps (An f) J (tI Tryz.prog g fn) fuel [.code (fn.body.getD .skip)] (entry g x)
noncomputable def dS(f j:Nat)(g:aO)(fn:Func)(sh:Shape)(F:FT)(J:JT g)(x:sh.T):Option g.B:=aI Tryz.prog Eqs Sg F fn.ntmps (An f) J (tI Tryz.prog g fn) fuel (round (aE Tryz.prog (f%1000) j)) (aA sh x)
end Go.Vs
namespace Go.Vs
open Go.Proofs
variable {G:(f:FuncId)→(g:aO)→Option (g.A→Option g.B)}
noncomputable abbrev FX(G:(f:FuncId)→(g:aO)→Option (g.A→Option g.B)):FT:=Fix Tryz.prog Eqs Sg An G
noncomputable abbrev LX(G:(f:FuncId)→(g:aO)→Option (g.A→Option g.B))(f:FuncId)(g:aO)(fn:Func):JT g:=Lp Tryz.prog Eqs Sg An G f g fn
abbrev HG(G:(f:FuncId)→(g:aO)→Option (g.A→Option g.B)):Prop:=∀f g,(f==207 || f==208)=false→G f g=none
theorem au{f:FuncId}{g:aO}{fn:Func}{x:g.A}{y:g.B}{z:Option g.B}(hG:G f g=none)(e:bN f g fn (FX G) (LX G f g fn) x=z)(h:z=some y) (hb:body Tryz.prog (f%1000)=some (fn,fn.body.getD .skip):=by kernel_rfl) (hc:(decide (g.ps.length≤fn.ntmps)&&decide (g.bs.length≤8))=true:=by kernel_rfl):FX G f g x=some y:=Qg hG hb hc (e.trans h)
theorem ak{f j:Nat}{g:aO}{fn:Func}{sh:Shape}{x:sh.T}{y:g.B}{z:Option g.B}(e:dS f j g fn sh (FX G) (LX G f g fn) x=z)(h:z=some y) (hs:(match aE Tryz.prog (f%1000) j with | .inLoop _::_=>true|_=>false)=true:=by kernel_rfl):LX G f g fn sh (aE Tryz.prog (f%1000) j) x=some y:=by
 have h:=e.trans h;unfold dS at h;generalize aE Tryz.prog (f%1000) j=s at hs h ⊢
 split at hs
 ·exact Vj h
 ·cases hs
abbrev aab:=(Int×(Int×Unit))
abbrev aap:=((ar×Unit)×Unit)
abbrev aaE:=(Int×Unit)
abbrev aaH:=(ag×Unit)
abbrev aaO:=(ID×Unit)
abbrev aaP:=((List ag)×Unit)
abbrev aaQ:=(aaH×Unit)
abbrev aaR:=((List Int)×Unit)
abbrev aa0:=(Unit×Unit)
abbrev aa1:=(ar×Unit)
abbrev aa2:=(aV×Unit)
abbrev aa7:=(aaO×Unit)
abbrev aa8:=(aaO×((Int×(Int×((List ag)×(ByteArray×aaE))))×Unit))
abbrev aba:=((List an)×aab)
abbrev abd:=(aap×Unit)
end Go.Vs
