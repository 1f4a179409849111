/- The value semantics is sound -/
import Derived.Test.YtpkfpbpbkabkdaaGreatEngineC
import Derived.Test.YtpkfpbpbkabkdaaGreatProg
import Derived.Scope
import Derived.KernelRfl
set_option linter.unusedSimpArgs false
set_option linter.unusedVariables false
namespace Go.Vs
variable {P:Program} {Eqs:TypeId→Option K} {Sg:FuncId→Option aX} {F:(f:FuncId)→(g:aX)→g.A→Option g.B} {R:Type}
variable {Z Z' Z0:Nat→Prop} {ψ ψ' ψ0:Nat→Value} {h h':Hp} {w w' w0:World} {B0:Nat} {O N:Nat→Prop}
def gK(st:St):(l:List (Nat×Nat×OK))→MV (l.map (·.2.2))→List A8
 |[],_=>[]
 |(s,id,ok)::r,x=>(id,(qT (look st.tmps s)).head?,.own ok x.1)::gK st r x.2
theorem xK(st:St):∀(l:List (Nat×Nat×OK)) (x:MV (l.map (·.2.2))),eI (gK st l x)=sV l x
 |[],_=>rfl
 |(s,id,ok)::r,x=>by simp only[gK,sV];rw[←xK st r x.2];rfl
theorem vq(st:St):∀(l:List (Nat×Nat×OK)) (x:MV (l.map (·.2.2))),(gK st l x).map (·.1)=l.map (·.2.1)
 |[],_=>rfl
 |(s,id,ok)::r,x=>by simp only[gK,List.map_cons];rw[vq st r x.2]
theorem Bm(st:St):∀(l:List (Nat×Nat×OK)) (x:MV (l.map (·.2.2))),(gK st l x).filterMap (·.2.1)=l.flatMap fun p=>qT (look st.tmps p.1)
 |[],_=>rfl
 |(s,id,ok)::r,x=>by simp only[gK,List.flatMap_cons];rw[eZ,Bm st r x.2];simp only[];rw[zr]
theorem tg{st:St}{s id:Nat}{ok:OK}{r:List (Nat×Nat×OK)}{x:MV (((s,id,ok)::r).map (·.2.2))}(hd:pf st ((s,id,ok)::r)=some x):fg st.heap ok (look st.tmps s)=some x.1∧pf st r=some x.2:=by
 have e:pf st ((s,id,ok)::r)=(match fg st.heap ok (look st.tmps s),pf st r with
  |some x,some y=>some ((x,y):ok.T×MV (r.map (·.2.2)))
  |_,_=>none):=rfl
 rw[e]at hd;clear e;generalize fg st.heap ok (look st.tmps s)=o1 at hd ⊢;generalize pf st r=o2 at hd ⊢
 cases o1 with
 |none=>cases hd
 |some x1 =>
  cases o2 with
  |none=>cases hd
  |some y1=>have:=abZ hd;subst this;exact⟨rfl,rfl⟩
theorem DS{hd:Hp}{st:St}:∀(l:List (Nat×Nat×OK)) (x:MV (l.map (·.2.2))),pf st l=some x→(∀s∈(l.flatMap fun p=>qT (look st.tmps p.1)),hd s=st.heap.get s) → ∀e∈gK st l x,xw Z ψ hd w h' ψ' e
 |[],_,_,_,e,he=>by simp[gK]at he
 |(s,id,ok)::r,x,hx,hk,e,he=>by
  obtain⟨h1,h2⟩:=tg hx;simp only[List.flatMap_cons]at hk;simp only[gK]at he;rcases abi.1 he with rfl|he
  ·exact O0 h1 fun s hs=>hk s (abn _ hs)
  ·exact DS r x.2 h2 (fun s hs=>hk s (abj _ hs)) e he
theorem KH{st:St}{s:Nat}{k:K}{r:List (Nat×K)}{x:J2 (((s,k)::r).map (·.2))}(hd:sR st ((s,k)::r)=some x):hM k st.heap (look st.tmps s)=some x.1∧sR st r=some x.2:=by
 have e:sR st ((s,k)::r)=(match hM k st.heap (look st.tmps s),sR st r with
  |some x,some y=>some ((x,y):k.T×J2 (r.map (·.2)))
  |_,_=>none):=rfl
 rw[e]at hd;clear e;generalize hM k st.heap (look st.tmps s)=o1 at hd ⊢;generalize sR st r=o2 at hd ⊢
 cases o1 with
 |none=>cases hd
 |some x1 =>
  cases o2 with
  |none=>cases hd
  |some y1=>have:=abZ hd;subst this;exact⟨rfl,rfl⟩
theorem fZ{T:List (Nat×AV)}{n:Nat}{a:Act}(fX:∀p∈T,aD Z ψ h w p.2 (a.tmps.getD p.1 undef))(hs:a.tmps.size=n)(hd:a.defers=[]):dn Z ψ h w n (look T) a:=by
 refine⟨fun d=>?_,hs,hd⟩
 induction T with
 |nil=>simp only[look,aD]
 |cons p r ih =>
  obtain⟨i,v⟩:=p;simp only[look]
  split
  ·rename_i e;subst e;exact fX _ abo
  ·exact ih fun p hp=>fX p (aa6 _ hp)
section
variable {st:St} {n:Nat} {a:Act}
theorem xL(g:Good Z ψ st.heap.get w B0 O)(t:dn Z ψ st.heap.get w n (look st.tmps) a)(hz:∀b,Z b→Z' b):∀(l:List (Nat×K)) (x:J2 (l.map (·.2))),sR st l=some x →(∀id b,AV.bT id∈(l.flatMap fun p=>(look st.tmps p.1).cells)→st.heap.get id≠none→ob (ψ id)=some b→Z' b)→∀p∈sS l x,aD Z' ψ' h' w p.2 (a.tmps.getD p.1 undef)
 |[],_,_,_,p,hp=>by simp[sS]at hp
 |(s,k)::r,x,hx,hf,p,hp=>by
  obtain⟨h1,h2⟩:=KH hx;simp only[List.flatMap_cons]at hf;simp only[sS]at hp;rcases abi.1 hp with rfl|hp
  ·exact ug g hz (fun id b bQ=>hf id b (abn _ bQ)) h1 (t.rep s)
  ·exact xL g t hz r x.2 h2 (fun id b bQ=>hf id b (abj _ bQ)) p hp
theorem vt(t:dn Z ψ st.heap.get w n (look st.tmps) a):∀(l:List (Src×Nat×BK)) (ids:List Nat),Ib st l=some ids→(∀i∈ids,st.heap.get i≠none) →(∀p∈ids.zip (l.map (·.2.1)),h' p.2≠none→ψ' p.2=ψ p.1)→∀p∈kM l,aD Z' ψ' h' w p.2 (a.tmps.getD p.1 undef)
 |[],_,_,_,_,p,hp=>by simp[kM]at hp
 |(src,oE,b)::r,ids,hx,hi,j0,p,hp=>by
  simp only[Ib]at hx
  split at hx
  ·rename_i i is h1 h2
   cases hx
   simp only[List.map_cons,List.zip_cons_cons]at j0;have ih:=vt t r is h2 (fun j hj=>hi j (aa6 _ hj)) (fun p hp=>j0 p (aa6 _ hp)) p
   cases src with
   |slot s =>
    simp only[kM]at hp;rcases abi.1 hp with rfl|hp
    ·simp only[ZL]at h1;obtain⟨sz,h3⟩:=q9 h1;have h4:=t.rep s;rw[h3]at h4;exact Ch h4 (hi i abo) (j0 (i,oE) abo)
    ·exact ih hp
   |cap s j=>exact ih (by simpa only[kM] using hp)
  ·cases hx
theorem KI{hh:Heap}{ids:List (Nat×Nat)}(hi:∀p∈ids,hh.get p.1≠none)(j0:∀p∈ids,h' p.2≠none→ψ' p.2=ψ p.1):∀(cap:List AV) (is FY:List Nat) (vs:List Value),kK cap=some is → is.map (fun i=>(ids.find? (·.1==i)).map (·.2))=FY.map some→aw Z ψ hh.get w cap vs→aw Z' ψ' h' w (FY.map fun i=>.ref i 0 0 0) vs
 |[],is,FY,vs,h1,h2,hr=>by
  simp only[kK]at h1
  cases h1
  cases FY with
  |nil=>simpa only[List.map_nil,aw] using hr
  |cons c r=>simp at h2
 |v::cap,is,FY,vs,h1,h2,hr=>by
  simp only[kK]at h1
  split at h1
  ·rename_i i is' h3 h4
   cases h1
   cases FY with
   |nil=>simp at h2
   |cons c r =>
    simp only[List.map_cons,List.cons.injEq]at h2;obtain⟨h5,h6⟩:=h2;simp only[List.map_cons,aw]at hr ⊢;obtain⟨u,us,rfl,h7,h8⟩:=hr;obtain⟨sz,rfl⟩:=q9 h3
    cases hf:ids.find? (·.1==i) with
    |none=>rw[hf]at h5;cases h5
    |some p =>
     rw[hf]at h5;have hm:=acG hf;have he:=adi hf;simp only[Option.map_some,Option.some.injEq]at h5;have he':p.1=i:=by simpa using he
     refine⟨u,us,rfl,Ch h7 (by rw[←he'];exact hi p hm) (fun hn=>?_),KI hi j0 cap is' r us h4 h6 h8⟩;rw[←h5,←he'];exact j0 p hm (by rw[h5];exact hn)
  ·cases h1
theorem Bn(t:dn Z ψ st.heap.get w n (look st.tmps) a){ids:List (Nat×Nat)}(hi:∀p∈ids,st.heap.get p.1≠none)(j0:∀p∈ids,h' p.2≠none→ψ' p.2=ψ p.1):∀(l:List (Nat×FuncId×List Nat)),OU st ids l=true → ∀p∈Cb l,aD Z' ψ' h' w p.2 (a.tmps.getD p.1 undef)
 |[],_,p,hp=>by simp[Cb]at hp
 |(s,f,FY)::r,hx,p,hp=>by
  simp only[OU,Bool.and_eq_true]at hx;simp only[Cb,List.map_cons]at hp;rcases abi.1 hp with rfl|hp
  ·have h1:=hx.1
   split at h1
   ·rename_i f' cap hl;simp only[Bool.and_eq_true,decide_eq_true_eq]at h1;obtain⟨rfl,h2⟩:=h1
    split at h2
    ·rename_i is hri;have h4:=t.rep s;rw[hl]at h4;simp only[aD]at h4 ⊢;obtain⟨vs,h5,h6⟩:=h4;exact⟨vs,h5,KI hi j0 cap is FY _ hri (of_decide_eq_true h2) h6⟩
    ·cases h2
   ·cases h1
  ·exact Bn t hi j0 r hx.2 p hp
theorem xM(t:dn Z ψ st.heap.get w n (look st.tmps) a):∀(l:List (Nat×Nat×OK)) (x:MV (l.map (·.2.2))),pf st l=some x→(∀e∈gK st l x,h' e.1≠none→ψ' e.1=kQ ψ e.2.1) → ∀p∈(l.map fun p=>(p.1,AV.bT p.2.1)),aD Z' ψ' h' w p.2 (a.tmps.getD p.1 undef)
 |[],_,_,_,p,hp=>by simp at hp
 |(s,id,ok)::r,x,hx,j0,p,hp=>by
  obtain⟨h1,h2⟩:=tg hx;simp only[gK]at j0;simp only[List.map_cons]at hp;rcases abi.1 hp with rfl|hp
  ·exact Io h1 (t.rep s) (j0 _ abo)
  ·exact xM t r x.2 h2 (fun e he=>j0 e (aa6 _ he)) p hp
end
theorem xN{st:St}{m:Nat}:∀(l:List (Nat×Nat×OK)) (x:MV (l.map (·.2.2))),qc st m l=true→∃o,(m,some m,o)∈gK st l x
 |[],_,h=>by cases h
 |(s,id,ok)::r,x,h=>by
  simp only[qc,Bool.or_eq_true,Bool.and_eq_true,beq_iff_eq]at h;rcases h with⟨rfl,h⟩|h
  ·split at h
   ·rename_i i hl;have hi:i=id:=by simpa using h
    subst hi;exact⟨_,by simp only[gK,hl,qT,List.head?_cons];exact abo⟩
   ·cases h
  ·obtain⟨o,ho⟩:=xN r x.2 h;exact⟨o,aa6 _ ho⟩
theorem vu{st:St}{m:Nat}:∀(l:List (Nat×Nat×OK)) (x:MV (l.map (·.2.2))),pf st l=some x→qc st m l=true→st.heap.get m≠none
 |[],_,_,h=>by cases h
 |(s,id,ok)::r,x,hx,h=>by
  obtain⟨h1,h2⟩:=tg hx;simp only[qc,Bool.or_eq_true,Bool.and_eq_true,beq_iff_eq]at h;rcases h with⟨rfl,h⟩|h
  ·split at h
   ·rename_i i hl;have hi:i=id:=by simpa using h
    subst hi;rw[hl]at h1;simp only[fg]at h1
    split at h1
    ·rename_i hg;rw[hg];simp
    ·cases h1
   ·cases h
  ·exact vu r x.2 h2 h
theorem O5{mj:List AV}{hh:Heap}{b:Nat}(hb:sF Z ψ hh.get mj b):Z b∨Own ψ hh.get b:=hb.imp (fun h=>h) fun⟨i,_,h2,h3⟩=>⟨i,h2,h3⟩
theorem ir{sh:Shape}{st:St}{x:sh.T}{n:Nat}{a:Act}(hx:de sh st=some x)(k:Ok Z0 w0 O ψ0 Z ψ st.heap.get w)(t:dn Z ψ st.heap.get w n (look st.tmps) a) :
  ∃Z' ψ',Ok Z0 w0 O ψ0 Z' ψ' (aA sh x).heap.get w∧dn Z' ψ' (aA sh x).heap.get w n (look (aA sh x).tmps) a:=by
 unfold de at hx
 split at hx
 ·cases hx
 rename_i ids pn
 split at hx
 ·rename_i xv xb xr hv hb hr F7
  cases hx
  simp only[Bool.and_eq_true]at F7;obtain⟨KJ,DC,ajs,ajt⟩:=F7;obtain⟨hlen,DE⟩:=kb _ _ _ hb;have ZZ:(sh.boxes.map (·.2.1)).length=sh.bs.length:=by simp[Shape.bs]
  let L:List A8:=cY sh.bs st.heap ids (sh.boxes.map (·.2.1)) 9000 xb++gK st sh.rows xr
  have eH:eI L=(aA sh (xv,xb,xr)).heap:=by show eI (_++_)=_;rw[oP,j9 _ _ _ _ _ _ hb ZZ,xK];rfl
  have eN:L.map (·.1)=ua sh:=by show(_++_:List A8).map _=_;rw[List.map_append,iZ _ _ _ _ _ _ hb ZZ,vq];rfl
  have eS:L.filterMap (·.2.1)=J5 st sh ids:=by show(_++_:List A8).filterMap _=_;rw[List.filterMap_append,lH _ _ _ _ _ _ hb ZZ,Bm];rfl
  have hn:cG (L.map (·.1))=true:=by rw[eN];exact DC
  have j0:=Cg (ψ:=ψ) hn;have hz:∀b,Z b→sF Z ψ st.heap.get (Ca st sh ids) b:=fun b hb=>.inl hb;have GR:=(uq KJ).2 st.heap;have g':Good (sF Z ψ st.heap.get (Ca st sh ids)) (fY ψ L) (eI L).get w w0.heap.size O:=by
   refine zt k.fi KJ hn eS fun e he=>?_;rcases abG.1 he with he|he
   ·exact nG k.fi hz sh.bs ids _ 9000 xb hb (fun id b bQ h1 h2=>.inr ⟨id,abj _ bQ,h1,h2⟩) (fun s hs=>GR s (abn _ hs)) (fun e he=>j0 e (abn _ he)) e he
   ·exact DS sh.rows xr hr (fun s hs=>GR s (abj _ hs)) e he
  have TH:∀p∈ids.zip (sh.boxes.map (·.2.1)),(eI L).get p.2≠none→fY ψ L p.2=ψ p.1:=fun p hp bq=>by obtain⟨o,ho⟩:=lJ sh.bs ids (sh.boxes.map (·.2.1)) 9000 xb (hh:=st.heap) hlen p hp;exact j0 (p.2,some p.1,o) (abn _ ho) bq
  have BT:∀p∈ids.zip (sh.boxes.map (·.2.1)),st.heap.get p.1≠none:=fun p hp=>DE _ (List.of_mem_zip hp).1;refine⟨sF Z ψ st.heap.get (Ca st sh ids),fY ψ L,?_,?_⟩
  ·rw[←eH];refine⟨g',fun b hb=>.inl (k.g6 b hb),fun b hb=>?_,k.os,k.tape,k.output,k.size,k.block,fun i hi bq=>?_⟩
   ·rcases O5 hb with h1|⟨id,h1,h2⟩
    ·exact k.fN b h1
    ·exact .inr (k.fi.live id b h1 h2).2.symm
   ·obtain⟨o,ho⟩:=ab8.1 bq;obtain⟨s,hm⟩:=qf ho;have gI:i∈ua sh:=by rw[←eN];exact ace.2 ⟨_,hm,rfl⟩
    have h1:=acZ.1 ajs i gI;simp only[Bool.or_eq_true,decide_eq_true_eq]at h1;rcases h1 with(h1|h1)|h1
    ·omega
    ·obtain⟨p,hp,he⟩:=List.any_eq_true.1 h1;simp only[Bool.and_eq_true,beq_iff_eq]at he;have h2:=TH p hp (by rw[he.2];exact bq);rw[he.1,he.2]at h2;rw[h2];exact k.fix i hi (by have:=BT p hp;rwa [he.1]at this)
    ·obtain⟨o',pz⟩:=xN sh.rows xr h1;have h2:fY ψ L i=ψ i:=j0 (i,some i,o') (abj _ pz) bq;rw[h2];exact k.fix i hi (vu sh.rows xr hr h1)
  ·rw[←eH];refine fZ (fun p hp=>?_) t.size t.defers;simp only[aA]at hp;rcases abG.1 hp with hp|hp
   ·exact xL k.fi t hz sh.BQ xv hv (fun id b bQ h1 h2=>.inr ⟨id,abn _ bQ,h1,h2⟩) p hp
   ·rcases abG.1 hp with hp|hp
    ·exact vt t sh.boxes ids pn DE TH p hp
    ·rcases abG.1 hp with hp|hp
     ·exact Bn t BT TH sh.fns ajt p hp
     ·exact xM t sh.rows xr hr (fun e he=>j0 e (abj _ he)) p hp
 ·cases hx
end Go.Vs
namespace Go.Vs
variable {P:Program} {Eqs:TypeId→Option K} {Sg:FuncId→Option aX} {F:(f:FuncId)→(g:aX)→g.A→Option g.B} {R:Type}
variable {Z Z' Z0:Nat→Prop} {ψ ψ' ψ0:Nat→Value} {h h':Hp} {w w' w0:World} {B0:Nat} {O N:Nat→Prop}
def Reach(P:Program)(b:Frame)(cs:List Frame)(wx:Act→World→Prop)(m:Machine):Prop:=∃a' w' todo,wx a' w'∧Steps P m (lone { b.at a' todo with mode:=.returning } cs w')
theorem Reach.head{b:Frame}{cs:List Frame}{wx:Act→World→Prop}{m m':Machine}(h:step P m=.next m')(r:Reach P b cs wx m'):Reach P b cs wx m:=by obtain⟨a,w,todo,h1,h2⟩:=r;exact⟨a,w,todo,h1,.head h h2⟩
theorem Reach.steps{b:Frame}{cs:List Frame}{wx:Act→World→Prop}{m m':Machine}(h:Steps P m m')(r:Reach P b cs wx m'):Reach P b cs wx m:=by obtain⟨a,w,todo,h1,h2⟩:=r;exact⟨a,w,todo,h1,h.trans h2⟩
mutual
theorem KK{p:Nat→Prop}(hp:∀i,p i):∀v:AV,aQ p v
 |.ref id _ _ _=>by simp only[aQ];exact hp id
 |.bT id=>by simp only[aQ];exact hp id
 |.fn _ cap=>by simp only[aQ];exact uz hp cap
 |.agg cs=>by simp only[aQ];exact uz hp cs
 |.o8 vs=>by simp only[aQ];exact uz hp vs
 |.no=>by simp only[aQ]
 |.bool _=>by simp only[aQ]
 |.int _ _=>by simp only[aQ]
 |.str _=>by simp only[aQ]
 |.mB=>by simp only[aQ]
 |.ia=>by simp only[aQ]
 |.fp _ _ _=>by simp only[aQ]
 |.sl _ _ _=>by simp only[aQ]
 |.mp _ _ _=>by simp only[aQ]
theorem uz{p:Nat→Prop}(hp:∀i,p i):∀l:List AV,aI p l
 |[]=>by simp only[aI]
 |v::r=>by simp only[aI];exact⟨KK hp v,uz hp r⟩
end
theorem Yi(s:Nat){n:Nat}{a:Act}{st:St}(k:Ok Z0 w0 O ψ0 Z ψ st.heap.get w)(t:dn Z ψ st.heap.get w n (look st.tmps) a):∃Z',Ok Z0 w0 O ψ0 Z' ψ (Ta s st).heap.get w∧dn Z' ψ (Ta s st).heap.get w n (look (Ta s st).tmps) a:=by
 unfold Ta
 split
 ·rename_i m hl
  split
  ·rename_i ty kk xs hg;have g:=k.fi;obtain⟨vs,T3,xq⟩:=g.row m (.row ty kk) xs hg;have hs:∀i o,(st.heap.del m).get i=some o→st.heap.get i=some o:=fun i o hi=>by rw[xm]at hi;by_cases e:i=m<;>simp_all [fq]
   have gg:=g.freeze (Z':=fun b=>Z b∨ob (ψ m)=some b) (h':=(st.heap.del m).get) hs (fun b hb=>.inl hb) (fun b hb=>hb.imp (fun h=>h) (fun hb=>⟨m,by rw[hg];simp,by rw[xm,bD],hb⟩));have n1:Next Z ψ st.heap.get w w0.heap.size O (fun _=>False) (fun b=>Z b∨ob (ψ m)=some b) ψ (st.heap.del m).get w:=⟨fun b hb=>.inl hb,fun b hb=>hb.imp (fun h=>h) (fun hb=>.inl ⟨m,by rw[hg];simp,hb⟩),dF.refl _ _ _,fun i hi=>by obtain⟨o,ho⟩:=ab8.1 hi;exact .inl ⟨by rw[hs i o ho];simp,rfl⟩,gg⟩;refine⟨_,k.next (fun id h=>h.elim) n1,⟨fun d=>?_,t.size,t.defers⟩⟩;rw[ux _ rfl];have hr:=t.rep d;by_cases hv:look st.tmps d=.bT m
   ·rw[hv]at hr ⊢;simp only[aD]at hr;have hu:=hr.2 (by rw[hg];simp);simp only[BP,if_true,aD];exact⟨by rw[hu];exact xh T3 xq (fun b hb=>.inl hb) (fun b hb=>.inr hb),by simp⟩
   ·have hf:BP m (.sl false kk xs) (look st.tmps d)=look st.tmps d:=by
     unfold BP
     split
     ·split
      ·rename_i i hi e;subst e;exact absurd hi hv
      ·rename_i i hi e;exact hi.symm
     ·rfl
    rw[hf];exact n1.rep g (KK (fun _ h=>h) _) hr
  ·exact⟨Z,k,t⟩
 ·exact⟨Z,k,t⟩
theorem T4{n:Nat}{a:Act}(o:Option Shape){st:St}(k:Ok Z0 w0 O ψ0 Z ψ st.heap.get w)(t:dn Z ψ st.heap.get w n (look st.tmps) a):∃Z',Ok Z0 w0 O ψ0 Z' ψ (J6 o st).heap.get w∧dn Z' ψ (J6 o st).heap.get w n (look (J6 o st).tmps) a:=by
 unfold J6
 split
 ·rename_i sh;generalize sh.rows=l
  induction l generalizing Z st with
  |nil=>exact⟨Z,k,t⟩
  |cons p r ih =>obtain⟨Z1,k1,t1⟩:=Yi p.1 k t;exact ih k1 t1
 ·exact⟨Z,k,t⟩
theorem th(V:Env P Eqs Sg F)(hm:P.follows .mixedOrders=true){n:Nat}{ann:Nat→Option Shape}{J:(sh:Shape)→List Item→sh.T→Option R}{ret:St→Option R}{r:R}{b:Frame}{cs:List Frame}{wx:Act→World→Prop} (hJ:∀sh c k x Z ψ a w,J sh (.inLoop c::k) x=some r→Ok Z0 w0 O ψ0 Z ψ (aA sh x).heap.get w→dn Z ψ (aA sh x).heap.get w n (look (aA sh x).tmps) a→Reach P b cs wx (lone (b.at a (.code c::.inLoop c::k)) cs w)) (u5:∀st Z ψ a w,ret st=some r→Ok Z0 w0 O ψ0 Z ψ st.heap.get w→dn Z ψ st.heap.get w n (look st.tmps) a→wx a w) :
  ∀(fu:Nat) (items:List Item) (st:St) (Z:Nat→Prop) (ψ:Nat→Value) (a:Act) (w:World),aG P Eqs Sg F n ann J ret fu items st=some r→Ok Z0 w0 O ψ0 Z ψ st.heap.get w→dn Z ψ st.heap.get w n (look st.tmps) a → Reach P b cs wx (lone (b.at a items) cs w)
 |0,items,st,Z,ψ,a,w,hx,k,t=>by
  cases items<;>simp only[aG]at hx<;>cases hx
 |fu+1,[],st,Z,ψ,a,w,hx,k,t=>⟨a,w,[],u5 st Z ψ a w (by simpa only[aG] using hx) k t,.one step_end⟩
 |fu+1,it::Rh,st,Z,ψ,a,w,hx,k,t=>by
  have ih:=th V hm (ann:=ann) hJ u5 fu;have loop:∀c,(match ann (ub c) with
    |none=>none
    |some sh=>match de sh st with
     |some x=>J sh (.inLoop c::Rh) x
     |none=>none)=some r→Reach P b cs wx (lone (b.at a (.code c::.inLoop c::Rh)) cs w):=fun c hx=>by
   split at hx
   ·cases hx
   ·rename_i sh hsh
    split at hx
    ·rename_i x hxx;obtain⟨Z',ψ',k',t'⟩:=ir hxx k t;exact hJ sh c Rh x Z' ψ' a w hx k' t'
    ·cases hx
  cases it with
  |inBlock id=>exact .head step_inBlock (ih Rh st Z ψ a w (by simpa only[aG] using hx) k t)
  |inScope c=>exact .head step_inScope (ih Rh st Z ψ a w (by simpa only[aG] using hx) k t)
  |inLoop c=>exact .head step_inLoop (loop c (by simp only[aG]at hx;exact hx))
  |code c =>
   cases c with
   |skip=>exact .head step_skip (ih Rh st Z ψ a w (by simpa only[aG] using hx) k t)
   |label l=>exact .head step_label (ih Rh st Z ψ a w (by simpa only[aG] using hx) k t)
   |seq x y=>exact .head step_seq (ih _ st Z ψ a w (by simpa only[aG] using hx) k t)
   |cond c x y =>
    simp only[aG]at hx
    split at hx
    ·rename_i tt ht;have h1:=td t c;rw[ht]at h1;simp only[aD]at h1
     cases tt with
     |true=>exact .head (step_cond h1) (ih _ st Z ψ a w hx k t)
     |false=>exact .head (step_cond h1) (ih _ st Z ψ a w hx k t)
    ·cases hx
   |scope c=>exact .head step_scope (ih _ st Z ψ a w (by simpa only[aG] using hx) k t)
   |block id c=>exact .head step_block (ih _ st Z ψ a w (by simpa only[aG] using hx) k t)
   |loop c =>
    simp only[aG]at hx
    cases fu with
    |zero=>simp only[aG]at hx;cases hx
    |succ fu=>exact .head step_loop (loop c (by simp only[aG]at hx;exact hx))
   |exit id =>
    simp only[aG]at hx
    split at hx
    ·rename_i k' hk;exact .head (step_exit hk) (ih _ st Z ψ a w hx k t)
    ·cases hx
   |ret=>exact⟨a,w,_,u5 st Z ψ a w (by simpa only[aG] using hx) k t,.one step_ret⟩
   |region id ops draw =>simp only[aG]at hx;obtain⟨Zf,k,t⟩:=T4 (ann (500000+id)) k t;have hw:=IF V hm (Q:=fun e a w=>e=.normal∧∃fM Z ψ,aG P Eqs Sg F n ann J ret fu Rh fM=some r∧Ok Z0 w0 O ψ0 Z ψ fM.heap.get w∧dn Z ψ fM.heap.get w n (look fM.tmps) a) hx k t (fun fM Z ψ a w h1 h2 h3=>⟨rfl,fM,Z,ψ,h1,h2,h3⟩);obtain⟨e,a',w',⟨rfl,fM,Z',ψ',h1,h2,h3⟩,TG⟩:=hw b Rh cs;exact .steps TG (ih Rh fM Z' ψ' a' w' h1 h2 h3)
   |_=>simp only[aG]at hx;cases hx
  |_=>simp only[aG]at hx;cases hx
theorem ti{hh:Heap}{n:Nat}{s:List (Nat×AV)}{a:Act}(g:Good Z ψ hh.get w B0 O)(t:dn Z ψ hh.get w n (look s) a):∀(l:List ResultVar) (acc:Array Value) (vs:List AV),AW P hh s l=some vs → ∃us,(l.foldlM (fun(bs:Array Value) r=>do let y ←(match r with | .tmp t=>pure (a.tmps.getD t undef) | .cell p ty=>do loadVar ty (←asAddr (a.tmps.getD p undef)):Sem Value);pure (bs.push y)) acc:Sem (Array Value)).run P w=.ok (acc++us.toArray) w∧aw Z ψ hh.get w vs us
 |[],acc,vs,hx=>by
  simp only[AW]at hx
  cases hx
  exact⟨[],by simp,by simp only[aw]⟩
 |.tmp d::l,acc,vs,hx=>by
  simp only[AW]at hx
  split at hx
  ·rename_i jc h1
   cases hx
   obtain⟨us,h2,h3⟩:=ti g t l (acc.push (a.tmps.getD d undef)) jc h1;refine⟨a.tmps.getD d undef::us,?_,by simp only[aw];exact⟨_,_,rfl,t.rep d,h3⟩⟩;simp only[List.foldlM_cons,Sem.run_bind,Sem.run_pure,Result.andThen_ok];rw[h2];simp
  ·cases hx
 |.cell d ty::l,acc,vs,hx=>by
  simp only[AW]at hx
  split at hx
  ·rename_i id sz off hd
   split at hx
   ·rename_i bt cs hg
    split at hx
    ·rename_i v jc hv h1
     cases hx
     have h4:=t.rep d;rw[hd]at h4;simp only[aD]at h4;obtain⟨ad,h5,h6⟩:=h4;obtain⟨gg,ws,e1,e2,e3,e4⟩:=g.box id bt cs hg;have h7:=h6 (by rw[hg];simp);rw[e1]at h7;simp only[XQ,Nat.zero_mul,Nat.zero_add]at h7;subst h7;obtain⟨V,h8,h9⟩:=kO (a:=⟨gg,off,none⟩) (e3.drop off) (fun j u hu=>by rw[dm];simp only[World.cell?,e2];rw[List.getElem?_drop]at hu;simpa using hu) hv;have ox:(loadVar ty ⟨gg,off,none⟩).run P w=.ok V w:=by have:=h8;simpa[Instr.loadAt,Instr.sureAddr] using this
     obtain⟨us,h2,h3⟩:=ti g t l (acc.push V) jc h1;refine⟨V::us,?_,by simp only[aw];exact⟨_,_,rfl,h9,h3⟩⟩;have BR:(asAddr (a.tmps.getD d undef)).run P w=.ok ⟨gg,off,none⟩ w:=by rw[h5];rfl
     simp only[List.foldlM_cons,Sem.run_bind,BR,Sem.run_pure,Result.andThen_ok,ox];rw[h2];simp
    ·cases hx
   ·cases hx
  ·cases hx
theorem KM{fn:Func}{hh:Heap}{n:Nat}{s:List (Nat×AV)}{a:Act}{vs:List AV}(g:Good Z ψ hh.get w B0 O)(t:dn Z ψ hh.get w n (look s) a)(hx:AW P hh s fn.results.toList=some vs) :
  ∃us v,(results fn a.tmps).run P w=.ok v w∧aw Z ψ hh.get w vs us∧v=(if us.length=1 then us.headD undef else .tuple us.toArray):=by
 obtain⟨us,h1,h2⟩:=ti (P:=P) g t fn.results.toList #[] vs hx;refine⟨us,_,?_,h2,rfl⟩;have h3:(fn.results.mapM fun r=>(match r with | .tmp t=>pure (a.tmps.getD t undef) | .cell p ty=>do loadVar ty (←asAddr (a.tmps.getD p undef)):Sem Value)).run P w=.ok us.toArray w:=by rw[Array.mapM_eq_foldlM,←Array.foldlM_toList];simpa using h1
 have h4:results fn a.tmps=(do
   let vs ←fn.results.mapM fun r=>(match r with | .tmp t=>pure (a.tmps.getD t undef) | .cell p ty=>do loadVar ty (←asAddr (a.tmps.getD p undef)):Sem Value)
   pure (if h:vs.size=1 then vs[0] else .tuple vs)):=rfl
 rw[h4,Sem.run_bind,h3,Result.andThen_ok,Sem.run_pure];congr 1;by_cases h5:us.length=1
 ·obtain⟨u,rfl⟩:=List.length_eq_one_iff.1 h5;simp
 ·rw[dif_neg (by simpa using h5),if_neg h5]
theorem iu:∀(ps:List PK) (ids:List Nat) (s:Nat) (x:J2 (mn ps)) (us:List Value),aw Z ψ h w ((ba ps ids s x).map (·.2)) us→us.length=ps.length∧∀p∈ba ps ids s x,∃j u,p.1=s+j∧us[j]? = some u∧aD Z ψ h w p.2 u
 |[],ids,s,x,us,hr=>by simp only[ba,List.map_nil,aw]at hr;subst hr;exact⟨rfl,fun p hp=>by simp[ba]at hp⟩
 |.val k::ps,ids,s,x,us,hr=>by
  simp only[ba,List.map_cons,aw]at hr;obtain⟨u,jU,rfl,h1,h2⟩:=hr;obtain⟨h3,h4⟩:=iu ps ids (s+1) x.2 jU h2;refine⟨by simp[h3],fun p hp=>?_⟩;simp only[ba]at hp;rcases abi.1 hp with rfl|hp
  ·exact⟨0,u,rfl,rfl,h1⟩
  ·obtain⟨j,u',h5,h6,h7⟩:=h4 p hp;exact⟨j+1,u',by omega,by simpa using h6,h7⟩
 |.ref::ps,i::ids,s,x,us,hr=>by
  simp only[ba,List.map_cons,aw]at hr;obtain⟨u,jU,rfl,h1,h2⟩:=hr;obtain⟨h3,h4⟩:=iu ps ids (s+1) x jU h2;refine⟨by simp[h3],fun p hp=>?_⟩;simp only[ba]at hp;rcases abi.1 hp with rfl|hp
  ·exact⟨0,u,rfl,rfl,h1⟩
  ·obtain⟨j,u',h5,h6,h7⟩:=h4 p hp;exact⟨j+1,u',by omega,by simpa using h6,h7⟩
 |.ref::ps,[],s,x,us,hr=>by
  simp only[ba,List.map_cons,aw]at hr;obtain⟨u,jU,rfl,h1,h2⟩:=hr;obtain⟨h3,h4⟩:=iu ps [] (s+1) x jU h2;refine⟨by simp[h3],fun p hp=>?_⟩;simp only[ba]at hp;rcases abi.1 hp with rfl|hp
  ·exact⟨0,u,rfl,rfl,h1⟩
  ·obtain⟨j,u',h5,h6,h7⟩:=h4 p hp;exact⟨j+1,u',by omega,by simpa using h6,h7⟩
 |.own::ps,i::ids,s,x,us,hr=>by
  simp only[ba,List.map_cons,aw]at hr;obtain⟨u,jU,rfl,h1,h2⟩:=hr;obtain⟨h3,h4⟩:=iu ps ids (s+1) x jU h2;refine⟨by simp[h3],fun p hp=>?_⟩;simp only[ba]at hp;rcases abi.1 hp with rfl|hp
  ·exact⟨0,u,rfl,rfl,h1⟩
  ·obtain⟨j,u',h5,h6,h7⟩:=h4 p hp;exact⟨j+1,u',by omega,by simpa using h6,h7⟩
 |.own::ps,[],s,x,us,hr=>by
  simp only[ba,List.map_cons,aw]at hr;obtain⟨u,jU,rfl,h1,h2⟩:=hr;obtain⟨h3,h4⟩:=iu ps [] (s+1) x jU h2;refine⟨by simp[h3],fun p hp=>?_⟩;simp only[ba]at hp;rcases abi.1 hp with rfl|hp
  ·exact⟨0,u,rfl,rfl,h1⟩
  ·obtain⟨j,u',h5,h6,h7⟩:=h4 p hp;exact⟨j+1,u',by omega,by simpa using h6,h7⟩
 |.JU f m::ps,ids,s,x,us,hr=>by
  simp only[ba,List.map_cons,aw]at hr;obtain⟨u,jU,rfl,h1,h2⟩:=hr;obtain⟨h3,h4⟩:=iu ps (ids.drop m) (s+1) x jU h2;refine⟨by simp[h3],fun p hp=>?_⟩;simp only[ba]at hp;rcases abi.1 hp with rfl|hp
  ·exact⟨0,u,rfl,rfl,h1⟩
  ·obtain⟨j,u',h5,h6,h7⟩:=h4 p hp;exact⟨j+1,u',by omega,by simpa using h6,h7⟩
 |.agg m::ps,ids,s,x,us,hr=>by
  simp only[ba,List.map_cons,aw]at hr;obtain⟨u,jU,rfl,h1,h2⟩:=hr;obtain⟨h3,h4⟩:=iu ps (ids.drop m) (s+1) x jU h2;refine⟨by simp[h3],fun p hp=>?_⟩;simp only[ba]at hp;rcases abi.1 hp with rfl|hp
  ·exact⟨0,u,rfl,rfl,h1⟩
  ·obtain⟨j,u',h5,h6,h7⟩:=h4 p hp;exact⟨j+1,u',by omega,by simpa using h6,h7⟩
section
variable {An:FuncId→Nat→Option Shape}
theorem DT(V:Env P Eqs Sg F)(hm:P.follows .mixedOrders=true){f:FuncId}{g:aX}{fn:Func}{y:g.B}{b:Frame}{cs:List Frame}{wx:Act→World→Prop} (u5:∀st Z ψ a w,sW P g fn st=some y→Ok Z0 w0 O ψ0 Z ψ st.heap.get w→dn Z ψ st.heap.get w fn.ntmps (look st.tmps) a→wx a w) :
  ∀(n:Nat) (sh:Shape) (c:Code) (k:List Item) (x:sh.T) (Z:Nat→Prop) (ψ:Nat→Value) (a:Act) (w:World),oF P Eqs Sg An F f g fn n sh (.inLoop c::k) x=some y → Ok Z0 w0 O ψ0 Z ψ (aA sh x).heap.get w→dn Z ψ (aA sh x).heap.get w fn.ntmps (look (aA sh x).tmps) a→Reach P b cs wx (lone (b.at a (.code c::.inLoop c::k)) cs w)
 |0,sh,c,k,x,Z,ψ,a,w,hx,_,_=>by simp only[oF]at hx;cases hx
 |n+1,sh,c,k,x,Z,ψ,a,w,hx,ko,t=>by simp only[oF]at hx;exact th V hm (fun sh c k x Z ψ a w h1 h2 h3=>DT V hm u5 n sh c k x Z ψ a w h1 h2 h3) u5 fuel _ _ Z ψ a w hx ko t
theorem IG{n i:Nat}(h:i∈aY n):∃j,j<n∧i=1000+20*j:=by unfold aY at h;obtain⟨j,h1,rfl⟩:=ace.1 h;exact⟨j,ac7.1 h1,rfl⟩
theorem T5{α:Type}{l:List α}{a:α}(h:a∈l):(a,a)∈l.zip l:=by
 induction l with
 |nil=>cases h
 |cons b r ih =>
  simp only[List.zip_cons_cons];rcases abi.1 h with rfl|h
  ·exact abo
  ·exact aa6 _ (ih h)
theorem Nw(V:Env P Eqs Sg F)(hm:P.follows .mixedOrders=true){f:FuncId}{g:aX}{n:Nat}{x:g.A}{y:g.B}(hx:MW P Eqs Sg An F f g n x=some y):GQ P f g x y:=by
 intro Z ψ0 w lK hg hr;unfold MW at hx
 split at hx
 ·cases hx
 rename_i fn c aaa;have hf:P.funcs[f%1000]? = some fn∧fn.body=some c:=by
  unfold body at aaa;obtain⟨fn',h1,h2⟩:=ac0.1 aaa;obtain⟨c',h3,h4⟩:=ac1.1 h2
  cases h4
  exact⟨h1,h3⟩
 split at hx
 ·rename_i hle;simp only[Bool.and_eq_true,decide_eq_true_eq]at hle;obtain⟨hlen,abt⟩:=iu g.ps (aY g.bs.length) 0 x.1 lK hr;intro cs
  let b:Frame:={ (default:Frame) with fn:=f%1000,kind:=.normal }
  let a0:Act:={ tmps:=lK.toArray++Array.replicate (fn.ntmps-lK.toArray.size) undef,defers:=[] }
  have abu:Frame.enter P (f%1000) lK.toArray .normal=b.at a0 [.code c]:=by simp[Frame.enter,Frame.at,hf.1,hf.2,b,a0]
  have ok0:Ok Z w (Own ψ0 (rk g x)) ψ0 Z ψ0 (entry g x).heap.get w :=⟨hg,fun _ h=>h,fun _ h=>.inl h,rfl,rfl,rfl,aci _,fun _ _ _=>rfl,fun _ _ _=>rfl⟩;have tr0:dn Z ψ0 (entry g x).heap.get w fn.ntmps (look (entry g x).tmps) a0:=by
   refine fZ (fun p hp=>?_) (by simp[a0];omega) rfl;obtain⟨j,u,h1,h2,h3⟩:=abt p hp;rw[h1];have hj:j<lK.length:=(aa9.1 h2).1;have:a0.tmps.getD (0+j) undef=u:=by rw[Nat.zero_add,Array.getD_eq_getD_getElem?];simp only[a0];rw[Array.getElem?_append_left (by simpa using hj)];simp[h2]
   rw[this];exact h3
  have u5:∀st Z1 pU a w1,sW P g fn st=some y→Ok Z w (Own ψ0 (rk g x)) ψ0 Z1 pU st.heap.get w1→dn Z1 pU st.heap.get w1 fn.ntmps (look st.tmps) a → a.defers=[]∧∃v,(results fn a.tmps).run P w1=.ok v w1∧∃v' Z' ψ',Ending.returned v=.returned v'∧(∀b,Z b→Z' b)∧(∀b,Z' b→Z b∨Own ψ0 (rk g x) b∨w.heap.size≤b)∧dF ψ0 (rk g x) w w1 ∧ Good Z' ψ' (kT g y).get w1 w.heap.size (Own ψ0 (rk g x))∧(∀i∈aY g.bs.length,ψ' i=ψ0 i)∧aD Z' ψ' (kT g y).get w1 (gq (bj g.rs (aY g.bs.length) 2000 3000 y.1)) v':=by
   intro st Z1 pU a w1 u5 k t;refine⟨t.defers,?_⟩;unfold sW at u5
   split at u5
   ·cases u5
   rename_i vs vW
   split at u5
   ·rename_i y1 y2 hd hb F7
    cases u5
    simp only[Bool.and_eq_true]at F7;obtain⟨KJ,DC⟩:=F7;obtain⟨us,v,h1,h2,h3⟩:=KM (P:=P) k.fi t vW;have ZZ:(aY g.bs.length).length=g.bs.length:=by simp[aY]
    let L:List A8:=cY g.bs st.heap (aY g.bs.length) (aY g.bs.length) 2000 y2++db g.rs vs 3000 y1
    have eH:eI L=kT g (y1,y2):=by show eI (_++_)=_;rw[oP,j9 _ _ _ _ _ _ hb ZZ,iC];rfl
    have eN:L.map (·.1)=sI g:=by show(_++_:List A8).map _=_;rw[List.map_append,iZ _ _ _ _ _ _ hb ZZ,gT];rfl
    have eS:L.filterMap (·.2.1)=dE g.bs st.heap (aY g.bs.length)++eX g.rs vs:=by show(_++_:List A8).filterMap _=_;rw[List.filterMap_append,lH _ _ _ _ _ _ hb ZZ,jM _ _ _ _ hd]
    have hn:cG (L.map (·.1))=true:=by rw[eN];exact DC
    have j0:=Cg (ψ:=pU) hn;have hz:∀b,Z1 b→sF Z1 pU st.heap.get (ig g.rs vs++ic g.bs st.heap (aY g.bs.length)) b:=fun b hb=>.inl hb;have GR:=(uq KJ).2 st.heap;have g':Good (sF Z1 pU st.heap.get (ig g.rs vs++ic g.bs st.heap (aY g.bs.length))) (fY pU L) (eI L).get w1 w.heap.size (Own ψ0 (rk g x)):=by
     refine zt k.fi KJ hn eS fun e he=>?_;rcases abG.1 he with he|he
     ·exact nG k.fi hz g.bs _ _ 2000 y2 hb (fun id b bQ h1 h2=>.inr ⟨id,abj _ bQ,h1,h2⟩) (fun s hs=>GR s (abn _ hs)) (fun e he=>j0 e (abn _ he)) e he
     ·exact kS g.rs vs 3000 y1 hd (fun s hs=>GR s (abj _ hs)) e he
    obtain⟨Bo,DE⟩:=kb _ _ _ hb;have SL:=uu (ids2:=aY g.bs.length) (Z':=sF Z1 pU st.heap.get (ig g.rs vs++ic g.bs st.heap (aY g.bs.length))) (ψ':=fY pU L) (h':=(eI L).get) k.fi hz hb ZZ (fun e he=>j0 e (abn _ he)) g.rs vs 3000 y1 us hd (fun id b bQ h1 h2=>.inr ⟨id,abn _ bQ,h1,h2⟩) (fun e he=>j0 e (abj _ he)) h2;refine⟨v,h1,v,sF Z1 pU st.heap.get (ig g.rs vs++ic g.bs st.heap (aY g.bs.length)),fY pU L,rfl,fun b hb=>.inl (k.g6 b hb),fun b hb=>?_,⟨k.os,k.tape,k.output,k.size,k.block⟩,by rw[←eH];exact g',fun i hi=>?_,?_⟩
    ·rcases O5 hb with h4|⟨id,h4,h5⟩
     ·exact k.fN b h4
     ·exact .inr (k.fi.live id b h4 h5).2.symm
    ·obtain⟨o,ho⟩:=lJ (hh:=st.heap) g.bs (aY g.bs.length) (aY g.bs.length) 2000 y2 Bo (i,i) (T5 hi);rw[jL hn (List.mem_append_left _ ho)];obtain⟨j,h4,h5⟩:=IG hi;exact k.fix i (by omega) (DE i hi)
    ·rw[←eH];have Tg:us.length=(bj g.rs (aY g.bs.length) 2000 3000 y1).length:=SL.length.symm;rw[h3]
     match hE:bj g.rs (aY g.bs.length) 2000 3000 y1,us,SL,Tg with
     |[],[],SL,_=>simp only[gq];simp only[aD];exact⟨#[],rfl,by simpa using SL⟩
     |[e1],[u],SL,_ =>
      simp only[aw]at SL;obtain⟨u',jU,he,h4,_⟩:=SL
      cases he
      simpa[gq] using h4
     |e1::e2::er,u1::u2::ur,SL,_ =>simp only[gq,aD];exact⟨(u1::u2::ur).toArray,by simp,by simpa using SL⟩
   ·cases u5
  have reach:=th V hm (b:=b) (cs:=cs) (fun sh c k x Z ψ a w h1 h2 h3=>DT V hm u5 n sh c k x Z ψ a w h1 h2 h3) u5 fuel _ _ Z ψ0 a0 w hx ok0 tr0;obtain⟨a',w',todo,⟨hd,v,xO,hR⟩,hs⟩:=reach;rw[←abu]at hs;exact⟨.returned v,w',_,hR,hs,rfl,rfl,hd,rfl,fn,hf.1,xO⟩
 ·cases hx
end
theorem KN(hX:∀f g u,Sg f=some g→g.x=some u→jD P (f%1000) u){G:(f:FuncId)→(g:aX)→Option (g.A→Option g.B)}{An:FuncId→Nat→Option Shape}(FN:∀t k,Eqs t=some k→nC P t k)(QS:∀f g,Sg f=some g→kc P (f%1000))(hm:P.follows .mixedOrders=true) (hG:∀f g u x y,Sg f=some g→G f g=some u→u x=some y→GQ P f g x y):∀(m:Nat) f g x y,Sg f=some g→Fn P Eqs Sg An G m f g x=some y→GQ P f g x y
 |0,f,g,x,y,hs,hx=>by
  simp only[Fn]at hx
  split at hx
  ·rename_i u hu;exact hG f g u x y hs hu hx
  ·cases hx
 |m+1,f,g,x,y,hs,hx=>by
  simp only[Fn]at hx
  split at hx
  ·rename_i u hu;exact hG f g u x y hs hu hx
  ·exact Nw ⟨FN,fun f g x y h1 h2=>KN hX FN QS hm hG m f g x y h1 h2,hX,QS⟩ hm hx
end Go.Vs
namespace Go.Vs
abbrev FT:=(f:FuncId)→(g:aX)→g.A→Option g.B
variable {P:Program} {Eqs:TypeId→Option K} {Sg:FuncId→Option aX} {R:Type}
def w6(p:Nat→Prop):Prop:=∃m,∀m',m≤m'→p m'
theorem w6.now{p:Nat→Prop}(h:∀m,p m):w6 p:=⟨0,fun m _=>h m⟩
theorem w6.and{p q r:Nat→Prop}(h:w6 p)(k:w6 q)(hr:∀m,p m→q m→r m):w6 r:=by obtain⟨a,ha⟩:=h;obtain⟨b,hb⟩:=k;exact⟨max a b,fun m hm=>hr m (ha m (by omega)) (hb m (by omega))⟩
theorem w6.imp{p r:Nat→Prop}(h:w6 p)(hr:∀m,p m→r m):w6 r:=by obtain⟨a,ha⟩:=h;exact⟨a,fun m hm=>hr m (ha m hm)⟩
def To(A:Nat→FT)(L:FT):Prop:=∀f g x y,L f g x=some y→w6 fun m=>A m f g x=some y
def ToK{α:Type}(A:Nat→α→Option R)(L:α→Option R):Prop:=∀x y,L x=some y→w6 fun m=>A m x=some y
def ToJ(A:Nat→(sh:Shape)→List Item→sh.T→Option R)(L:(sh:Shape)→List Item→sh.T→Option R):Prop:=∀sh k x y,L sh k x=some y→w6 fun m=>A m sh k x=some y
theorem T6(h:Heap)(id:Nat)(f:FuncId)(vs:List AV):(∀F F':FT,j7 Sg F h id f vs some=j7 Sg F' h id f vs some) ∨ ∃ff g x,(∀F F':FT,F ff g x=F' ff g x→j7 Sg F h id f vs some=j7 Sg F' h id f vs some)∧∀F:FT,F ff g x=none→j7 Sg F h id f vs some=none:=by
 unfold j7
 split
 ·exact .inl fun _ _=>rfl
 rename_i g hg
 split
 ·exact .inl fun _ _=>rfl
 split
 ·split
  ·split
   ·rename_i x b hx hb hp;refine .inr ⟨_,g,(x,b),fun F F' e=>by rw[e],fun F e=>by rw[e];rfl⟩
   ·exact .inl fun _ _=>rfl
  ·split
   ·rename_i x b hx hb hp;refine .inr ⟨_,g,(x,b),fun F F' e=>by rw[e],fun F e=>by rw[e];rfl⟩
   ·exact .inl fun _ _=>rfl
 ·exact .inl fun _ _=>rfl
theorem Yj{A:Nat→FT}{L:FT}(hA:To A L){h:Heap}{id:Nat}{f:FuncId}{vs:List AV}{e:bU}(he:j7 Sg L h id f vs some=some e):w6 fun m=>j7 Sg (A m) h id f vs some=some e:=by
 rcases T6 (Sg:=Sg) h id f vs with k|⟨ff,g,x,k1,k2⟩
 ·exact .now fun m=>(k _ _).trans he
 ·cases hy:L ff g x with
  |none=>rw[k2 L hy]at he;cases he
  |some y=>exact(hA _ _ _ _ hy).imp fun m hm=>(k1 (A m) L (hm.trans hy.symm)).trans he
theorem KO{A:Nat→FT}{L:FT}(hA:To A L){id:Nat}{h:Heap}{s:List (Nat×AV)}{o:Oper}{e:bU}(he:dv P Eqs Sg L id h s o some=some e):w6 fun m=>dv P Eqs Sg (A m) id h s o some=some e:=by
 obtain⟨dst,op,type,pos,after,guard⟩:=o
 cases op with
 |call c =>
  obtain⟨callee,args,argTypes⟩:=c
  cases callee with
  |value f =>
   simp only[dv]at he
   split at he
   ·rename_i f' cap hf;refine(Yj hA he).imp fun m hm=>?_;simp only[dv,hf];exact hm
   ·cases he
  |builtin bi=>cases bi<;>exact .now fun m=>he
  |invoke _ _=>exact .now fun m=>he
 |unOp u _ _=>cases u<;>exact .now fun m=>he
 |makeFunc fn _ _=>cases fn<;>exact .now fun m=>he
 |makeMap _ r=>cases r<;>exact .now fun m=>he
 |next _ b=>cases b<;>exact .now fun m=>he
 |_=>exact .now fun m=>he
theorem w6.all{p:Nat→Nat→Prop}:∀(n:Nat),(∀j,j<n→w6 (p j))→w6 fun m=>∀j,j<n→p j m
 |0,_=>.now fun m j hj=>absurd hj (Nat.not_lt_zero _)
 |n+1,h=>(w6.all n fun j hj=>h j (by omega)).and (h n (by omega)) fun m h1 h2 j hj=>by
  by_cases e:j=n
  ·subst e;exact h2
  ·exact h1 j (by omega)
theorem Nx{h:Heap}{x:AV}{K:Nat→AV→Heap→Option R}{KL:AV→Heap→Option R}(hK:∀v h y,KL v h=some y→w6 fun m=>K m v h=some y){r:R}(he:mD h x KL=some r):w6 fun m=>mD h x (K m)=some r:=by
 unfold mD at he ⊢
 split at he
 ·rename_i id
  split at he
  ·rename_i kk vk p hg
   try simp only[hg]
   cases hp:p.2 with
   |nil =>simp only[hp,List.isEmpty_nil,cond_true]at he ⊢;exact hK _ _ _ he
   |cons c l =>simp only[hp,List.isEmpty_cons,cond_false]at he ⊢;have h1:=ql he;refine(w6.all _ fun j hj=>?_).imp fun m hm=>oU (by simp) hm;have h2:=h1 j hj;rw[List.getElem?_eq_getElem hj]at h2 ⊢;simp only[Option.bind_some]at h2 ⊢;exact hK _ _ _ h2
  ·cases he
 ·cases he
theorem T7{h:Heap}{x:AV}{want:Bool}{K:Nat→AV→Option R}{KL:AV→Option R}(hK:∀v y,KL v=some y→w6 fun m=>K m v=some y){r:R}(he:xe h x want KL=some r):w6 fun m=>xe h x want (K m)=some r:=by
 unfold xe at he ⊢
 split at he
 ·exact hK _ _ he
 ·rename_i xs hv
  cases A2:xs.isEmpty with
  |true =>simp only[A2,cond_true]at he ⊢;have h1:=ql he;exact(w6.all _ fun j hj=>hK _ _ (h1 j hj)).imp fun m hm=>oU (by decide) hm
  |false =>simp only[A2,cond_false]at he ⊢;exact hK _ _ he
 ·cases he
theorem DU{A:Nat→FT}{L:FT}(hA:To A L){rid:Nat}{draw:Bool}{ops:Array Oper}{b:Array Nat}{K:Nat→St→Option R}{KL:St→Option R}(hK:ToK K KL) :
  ∀(l:List (Nat×Oper)) (st:St) (r:R),bL P Eqs Sg L rid draw ops b l st KL=some r→w6 fun m=>bL P Eqs Sg (A m) rid draw ops b l st (K m)=some r
 |[],st,r,he=>hK st r (by simpa only[bL] using he)
 |(i,o)::l,st,r,he=>by
  have ih:=DU hA (rid:=rid) (draw:=draw) (ops:=ops) (b:=b) hK l;have run:∀st:St,(match (if draw then none else qV P (opId rid i) st o) with
    |some fM=>bL P Eqs Sg L rid draw ops b l fM KL
    |none=>match (if draw then none else xd o) with
    |some x=>mD st.heap (ρ st.tmps x) fun v h=>bL P Eqs Sg L rid draw ops b l (({ st with heap:=h }:St).put o.dst v) KL
    |none=>match (if draw then none else isNil P o) with
    |some (x,want)=>xe st.heap (ρ st.tmps x) want fun v=>bL P Eqs Sg L rid draw ops b l (st.put o.dst v) KL
    |none=>if draw then dv P Eqs Sg L (opId rid i) (iX (ahead rid (b.getD i 0) st.heap) (iQ ops b i st.tmps o)) st.tmps o fun e =>
     if(iL true rid ops b i (b.getD i 0) (iR (iQ ops b i st.tmps o) (ahead rid (b.getD i 0) st.heap) e)&&nr (iQ ops b i st.tmps o) e)=true then
      bL P Eqs Sg L rid draw ops b l ({ st with heap:=match iR (iQ ops b i st.tmps o) (ahead rid (b.getD i 0) st.heap) e with | .wr _ h=>h|e=>e.h st.heap }.put o.dst e.v) KL else none
     else dv P Eqs Sg L (opId rid i) st.heap st.tmps o fun e =>
     if iL false rid ops b i (2 ^ i-1) e then bL P Eqs Sg L rid draw ops b l ({ st with heap:=match e with | .wr _ h=>h|e=>e.h st.heap }.put o.dst e.v) KL else none)=some r →
    w6 fun m=>(match (if draw then none else qV P (opId rid i) st o) with
    |some fM=>bL P Eqs Sg (A m) rid draw ops b l fM (K m)
    |none=>match (if draw then none else xd o) with
    |some x=>mD st.heap (ρ st.tmps x) fun v h=>bL P Eqs Sg (A m) rid draw ops b l (({ st with heap:=h }:St).put o.dst v) (K m)
    |none=>match (if draw then none else isNil P o) with
    |some (x,want)=>xe st.heap (ρ st.tmps x) want fun v=>bL P Eqs Sg (A m) rid draw ops b l (st.put o.dst v) (K m)
    |none=>if draw then dv P Eqs Sg (A m) (opId rid i) (iX (ahead rid (b.getD i 0) st.heap) (iQ ops b i st.tmps o)) st.tmps o fun e =>
     if(iL true rid ops b i (b.getD i 0) (iR (iQ ops b i st.tmps o) (ahead rid (b.getD i 0) st.heap) e)&&nr (iQ ops b i st.tmps o) e)=true then
      bL P Eqs Sg (A m) rid draw ops b l ({ st with heap:=match iR (iQ ops b i st.tmps o) (ahead rid (b.getD i 0) st.heap) e with | .wr _ h=>h|e=>e.h st.heap }.put o.dst e.v) (K m) else none
     else dv P Eqs Sg (A m) (opId rid i) st.heap st.tmps o fun e =>
     if iL false rid ops b i (2 ^ i-1) e then bL P Eqs Sg (A m) rid draw ops b l ({ st with heap:=match e with | .wr _ h=>h|e=>e.h st.heap }.put o.dst e.v) (K m) else none)=some r:=by
   intro st h
   split at h
   ·rename_i fM qk
    try simp only[qk]
    exact ih _ r h
   rename_i qk
   split at h
   ·rename_i x GY
    try simp only[qk,GY]
    exact Nx (fun v h y hy=>ih _ y hy) h
   rename_i GY
   split at h
   ·rename_i x want hnl
    try simp only[qk,GY,hnl]
    exact T7 (fun v y hy=>ih _ y hy) h
   rename_i hnl
   try simp only[qk,GY,hnl]
   cases draw with
   |true =>
    simp only[if_true]at h ⊢;rw[mV]at h;obtain⟨e,h1,h2⟩:=ac0.1 h;by_cases hc:(iL true rid ops b i (b.getD i 0) (iR (iQ ops b i st.tmps o) (ahead rid (b.getD i 0) st.heap) e)&&nr (iQ ops b i st.tmps o) e)=true
    ·rw[if_pos hc]at h2;refine(KO hA h1).and (ih _ r h2) fun m h3 h4=>?_;rw[mV,h3,Option.bind_some,if_pos hc];exact h4
    ·rw[if_neg hc]at h2;cases h2
   |false =>
    simp only[Bool.false_eq_true,if_false]at h ⊢;rw[mV]at h;obtain⟨e,h1,h2⟩:=ac0.1 h;by_cases hc:iL false rid ops b i (2 ^ i-1) e=true
    ·rw[if_pos hc]at h2;refine(KO hA h1).and (ih _ r h2) fun m h3 h4=>?_;rw[mV,h3,Option.bind_some,if_pos hc];exact h4
    ·rw[if_neg hc]at h2;cases h2
  simp only[bL]at he ⊢
  split at he
  ·rename_i hg
   try simp only[hg]
   exact run _ he
  ·rename_i j want hg
   try simp only[hg]
   split at he
   ·cases he
   ·rename_i d hd
    try simp only[hd]
    split at he
    ·rename_i t ht
     try simp only[ht]
     cases t<;>cases want<;>simp only[cond_true,cond_false,if_true,if_false,Bool.false_eq_true]at he ⊢<;>first|exact run _ he|exact ih _ r he
    ·rename_i ht
     try simp only[ht]
     exact ih _ r he
    ·cases he
theorem Gd{A:Nat→FT}{L:FT}(hA:To A L){n rid:Nat}{ops:Array Oper}{draw:Bool}{K:Nat→St→Option R}{KL:St→Option R}(hK:ToK K KL){st:St}{r:R} (he:jy P Eqs Sg L n rid ops draw st KL=some r):w6 fun m=>jy P Eqs Sg (A m) n rid ops draw st (K m)=some r:=by
 unfold jy at he ⊢;by_cases hc:((ops.all fun o=>jx n o)&&(!draw || (xc ops (if draw then Region.before ops else #[])&&(C0 ops (if draw then Region.before ops else #[])&&cG (ops.toList.filterMap (·.dst)))))&&decide (ops.size≤128))=true
 ·dsimp only at he ⊢
  rw[if_pos hc]at he;refine(DU hA hK _ _ r he).imp fun m hm=>?_;rw[if_pos hc];exact hm
 ·dsimp only at he
  rw[if_neg hc]at he;cases he
theorem iE{A:Nat→FT}{L:FT}(hA:To A L){n:Nat}{ann:Nat→Option Shape}{J:Nat→(sh:Shape)→List Item→sh.T→Option R}{JL:(sh:Shape)→List Item→sh.T→Option R}(hJ:ToJ J JL){ret:St→Option R} :
  ∀(fu:Nat) (items:List Item) (st:St) (r:R),aG P Eqs Sg L n ann JL ret fu items st=some r→w6 fun m=>aG P Eqs Sg (A m) n ann (J m) ret fu items st=some r
 |0,items,st,r,he=>by cases items<;>simp only[aG]at he<;>cases he
 |fu+1,[],st,r,he=>.now fun m=>by simpa only[aG] using he
 |fu+1,it::Rh,st,r,he=>by
  have ih:=iE hA (n:=n) (ann:=ann) hJ (ret:=ret) fu
  cases it with
  |inBlock id=>simp only[aG]at he ⊢;exact ih _ _ _ he
  |inScope c=>simp only[aG]at he ⊢;exact ih _ _ _ he
  |inLoop c =>
   simp only[aG]at he ⊢
   split at he
   ·cases he
   ·rename_i sh hsh
    try simp only[hsh]
    split at he
    ·rename_i x hx
     try simp only[hx]
     exact hJ _ _ _ _ he
    ·cases he
  |code c =>
   cases c with
   |cond c x y =>
    simp only[aG]at he ⊢
    split at he
    ·rename_i t ht
     try simp only[ht]
     cases t<;>simp only[cond_true,cond_false]at he ⊢<;>exact ih _ _ _ he
    ·cases he
   |exit id =>
    simp only[aG]at he ⊢
    split at he
    ·rename_i k' hk
     try simp only[hk]
     exact ih _ _ _ he
    ·cases he
   |ret=>exact .now fun m=>by simpa only[aG] using he
   |region id ops draw =>simp only[aG]at he ⊢;exact Gd hA (K:=fun m fM=>aG P Eqs Sg (A m) n ann (J m) ret fu Rh fM) (fun st y h=>ih Rh st y h) he
   |skip=>simp only[aG]at he ⊢;exact ih _ _ _ he
   |label l=>simp only[aG]at he ⊢;exact ih _ _ _ he
   |seq x y=>simp only[aG]at he ⊢;exact ih _ _ _ he
   |block id c=>simp only[aG]at he ⊢;exact ih _ _ _ he
   |scope c=>simp only[aG]at he ⊢;exact ih _ _ _ he
   |loop c=>simp only[aG]at he ⊢;exact ih _ _ _ he
   |_=>simp only[aG]at he;cases he
  |_=>simp only[aG]at he;cases he
section
variable {An:FuncId→Nat→Option Shape} {G:(f:FuncId)→(g:aX)→Option (g.A→Option g.B)}
def FLe(F F':FT):Prop:=∀f g x y,F f g x=some y→F' f g x=some y
theorem FLe.to{F F':FT}(h:FLe F F'):To (fun _=>F') F:=fun f g x y hy=>.now fun _=>h f g x y hy
theorem w6.get{p:Prop}(h:w6 fun _=>p):p:=by obtain⟨m,hm⟩:=h;exact hm m (aci _)
theorem qm{F F':FT}(h:FLe F F'){f:FuncId}{g:aX}{fn:Func}:∀(n n':Nat) (sh:Shape) (k:List Item) (x:sh.T) (y:g.B),n≤n'→oF P Eqs Sg An F f g fn n sh k x=some y→oF P Eqs Sg An F' f g fn n' sh k x=some y
 |0,_,_,_,_,_,_,hx=>by simp only[oF]at hx;cases hx
 |n+1,0,_,_,_,_,hn,_=>by omega
 |n+1,n'+1,sh,k,x,y,hn,hx=>by
  cases k with
  |nil=>simp only[oF]at hx;cases hx
  |cons it k =>
   cases it with
   |inLoop c =>simp only[oF]at hx ⊢;exact(iE h.to (J:=fun _=>oF P Eqs Sg An F' f g fn n') (JL:=oF P Eqs Sg An F f g fn n) (fun sh k x y hy=>.now fun _=>qm h n n' sh k x y (by omega) hy) _ _ _ _ hx).get
   |_=>simp only[oF]at hx;cases hx
theorem Ri{F F':FT}(h:FLe F F'){f:FuncId}{g:aX}{n n':Nat}{x:g.A}{y:g.B}(hn:n≤n')(hx:MW P Eqs Sg An F f g n x=some y):MW P Eqs Sg An F' f g n' x=some y:=by
 unfold MW at hx ⊢
 split at hx
 ·cases hx
 ·rename_i fn c hb
  try simp only[hb]
  split at hx
  ·rename_i hc;simp only[if_pos hc];exact(iE h.to (J:=fun _=>oF P Eqs Sg An F' f g fn n') (JL:=oF P Eqs Sg An F f g fn n) (fun sh k x y hy=>.now fun _=>qm h n n' sh k x y hn hy) _ _ _ _ hx).get
  ·cases hx
theorem Cq:∀m,FLe (Fn P Eqs Sg An G m) (Fn P Eqs Sg An G (m+1))
 |0,f,g,x,y,hx=>by
  simp only[Fn]at hx ⊢
  split at hx
  ·rename_i u hu;(try simp only[hu]);exact hx
  ·cases hx
 |m+1,f,g,x,y,hx=>by
  rw[Fn]at hx ⊢
  split at hx
  ·rename_i u hu;(try simp only[hu]);exact hx
  ·rename_i hu
   try simp only[hu]
   exact Ri (Cq m) (Nat.le_succ m) hx
theorem Cr{m m':Nat}(h:m≤m'):FLe (Fn P Eqs Sg An G m) (Fn P Eqs Sg An G m'):=by
 induction h with
 |refl=>exact fun _ _ _ _ h=>h
 |step _ ih=>exact fun f g x y hx=>Cq _ f g x y (ih f g x y hx)
variable (P Eqs Sg An G) in
open Classical in
noncomputable def Fix:FT:=fun f g x=>if h:∃m y,Fn P Eqs Sg An G m f g x=some y then some (Classical.choose (Classical.choose_spec h)) else none
theorem IH:To (Fn P Eqs Sg An G) (Fix P Eqs Sg An G):=fun f g x y hy=>by
 unfold Fix at hy
 split at hy
 ·rename_i h
  cases hy
  exact⟨Classical.choose h,fun m' hm=>Cr hm _ _ _ _ (Classical.choose_spec (Classical.choose_spec h))⟩
 ·cases hy
theorem T8{m:Nat}{f:FuncId}{g:aX}{x:g.A}{y:g.B}(h:Fn P Eqs Sg An G m f g x=some y):Fix P Eqs Sg An G f g x=some y:=by
 have he:∃m y,Fn P Eqs Sg An G m f g x=some y:=⟨m,y,h⟩
 cases hy:Fix P Eqs Sg An G f g x with
 |none=>unfold Fix at hy;rw[dif_pos he]at hy;cases hy
 |some y' =>obtain⟨m1,h1⟩:=IH f g x y' hy;have h2:=h1 (max m m1) (by omega);have h3:=Cr (show m≤max m m1 by omega) f g x y h;rw[h2]at h3;exact h3
variable (P Eqs Sg An G) in
open Classical in
noncomputable def Lp(f:FuncId)(g:aX)(fn:Func)(sh:Shape)(k:List Item)(x:sh.T):Option g.B :=if h:∃m y,oF P Eqs Sg An (Fn P Eqs Sg An G m) f g fn m sh k x=some y then some (Classical.choose (Classical.choose_spec h)) else none
theorem T9{f:FuncId}{g:aX}{fn:Func}:ToJ (fun m=>oF P Eqs Sg An (Fn P Eqs Sg An G m) f g fn m) (Lp P Eqs Sg An G f g fn):=fun sh k x y hy=>by
 unfold Lp at hy
 split at hy
 ·rename_i h
  cases hy
  exact⟨Classical.choose h,fun m' hm=>qm (Cr hm) _ _ _ _ _ _ hm (Classical.choose_spec (Classical.choose_spec h))⟩
 ·cases hy
theorem ad9{m:Nat}{f:FuncId}{g:aX}{fn:Func}{sh:Shape}{k:List Item}{x:sh.T}{y:g.B}(h:oF P Eqs Sg An (Fn P Eqs Sg An G m) f g fn m sh k x=some y):Lp P Eqs Sg An G f g fn sh k x=some y:=by
 have he:∃m y,oF P Eqs Sg An (Fn P Eqs Sg An G m) f g fn m sh k x=some y:=⟨m,y,h⟩
 cases hy:Lp P Eqs Sg An G f g fn sh k x with
 |none=>unfold Lp at hy;rw[dif_pos he]at hy;cases hy
 |some y' =>obtain⟨m1,h1⟩:=T9 sh k x y' hy;have h2:=h1 (max m m1) (by omega);have h3:=qm (Cr (show m≤max m m1 by omega)) m (max m m1) sh k x y (by omega) h;exact h2.symm.trans h3
theorem O6{f:FuncId}{g:aX}{x:g.A}{y:g.B}{fn:Func}{c:Code}(hG:G f g=none)(hb:body P (f%1000)=some (fn,c))(hc:(decide (g.ps.length≤fn.ntmps)&&decide (g.bs.length≤8))=true) (h:aG P Eqs Sg (Fix P Eqs Sg An G) fn.ntmps (An f) (Lp P Eqs Sg An G f g fn) (sW P g fn) fuel [.code c] (entry g x)=some y):Fix P Eqs Sg An G f g x=some y:=by obtain⟨m,hm⟩:=iE (IH (P:=P) (Eqs:=Eqs) (Sg:=Sg) (An:=An) (G:=G)) (T9 (f:=f) (g:=g) (fn:=fn)) _ _ _ _ h;refine T8 (m:=m+1) ?_;simp only[Fn,hG];unfold MW;simp only[hb,if_pos hc];exact hm m (aci _)
theorem G4{f:FuncId}{g:aX}{x:g.A}{y:g.B}{u:g.A→Option g.B}(hG:G f g=some u)(h:u x=some y):Fix P Eqs Sg An G f g x=some y:=by refine T8 (m:=0) ?_;simp only[Fn,hG];exact h
theorem Ua{f:FuncId}{g:aX}{fn:Func}{sh:Shape}{c:Code}{k:List Item}{x:sh.T}{y:g.B} (h:aG P Eqs Sg (Fix P Eqs Sg An G) fn.ntmps (An f) (Lp P Eqs Sg An G f g fn) (sW P g fn) fuel (.code c::.inLoop c::k) (aA sh x)=some y):Lp P Eqs Sg An G f g fn sh (.inLoop c::k) x=some y:=by obtain⟨m,hm⟩:=iE (IH (P:=P) (Eqs:=Eqs) (Sg:=Sg) (An:=An) (G:=G)) (T9 (f:=f) (g:=g) (fn:=fn)) _ _ _ _ h;refine ad9 (m:=m+1) ?_;simp only[oF];refine(iE (L:=Fn P Eqs Sg An G m) (FLe.to (Cq m)) (J:=fun _=>oF P Eqs Sg An (Fn P Eqs Sg An G (m+1)) f g fn m) (JL:=oF P Eqs Sg An (Fn P Eqs Sg An G m) f g fn m) (fun sh k x y hy=>.now fun _=>qm (Cq m) m m sh k x y (aci _) hy) _ _ _ _ (hm m (aci _))).get
theorem Cs(hX:∀f g u,Sg f=some g→g.x=some u→jD P (f%1000) u)(FN:∀t k,Eqs t=some k→nC P t k)(QS:∀f g,Sg f=some g→kc P (f%1000))(hm:P.follows .mixedOrders=true) (hG:∀f g u x y,Sg f=some g→G f g=some u→u x=some y→GQ P f g x y) {f:FuncId} {g:aX} {x:g.A} {y:g.B} (hs:Sg f=some g) (h:Fix P Eqs Sg An G f g x=some y):GQ P f g x y:=by obtain⟨m,X2⟩:=IH f g x y h;exact KN hX FN QS hm hG m f g x y hs (X2 m (aci _))
end
end Go.Vs
namespace Go.Vs
open Go.Proofs
abbrev ae:=((Int×Int)×Int)
abbrev ID:=(Int×Int)
abbrev ai:=(ID×((List ae)×(ByteArray×Int)))
abbrev an:=(ID×(ByteArray×Int))
abbrev ak:=((List ai)×(List an))
abbrev aE:=(ae×ae)
abbrev StateT:=(ak×(List aE))
abbrev ml:=(ID×ae)
abbrev aW:=(Int×(ID×(ID×(ID×(ml×(ml×(Bool×(ByteArray×Int))))))))
abbrev bf:=((List ai)×((List an)×((List aE)×Unit)))
abbrev lI{α:Type}(l:List α):Int:=((l.length:Nat):Int)
abbrev wI(n:Int):Int:=IntKind.wrap .i64 n
abbrev OI:ID:=(0,0)
abbrev OD:ae:=(OI,0)
abbrev OC:ml:=(OI,OD)
abbrev OB:ByteArray:=⟨#[]⟩
abbrev OS:StateT:=(([],[]),[])
abbrev OW:bf:=([],([],([],())))
abbrev k13:K:=(.pair .str (.int .u64))
abbrev iV:K:=(.pair (.int .i64) (.int .i64))
abbrev k68:K:=(.pair .str (.pair (.int .i64) .bool))
abbrev bA:K:=(.pair iV (.int .i64))
abbrev k7:K:=(.pair (.int .i64) (.pair (.int .i64) (.pair .bool (.int .u8))))
abbrev eR:K:=(.pair iV (.pair .str (.int .i64)))
abbrev SM:K:=(.pair iV bA)
abbrev dx:K:=(.pair bA bA)
abbrev dN:K:=(.pair iV (.pair (.sl bA) (.pair .str (.int .i64))))
abbrev dC:K:=(.pair (.sl dN) (.sl eR))
abbrev mF:K:=(.pair dC (.sl dx))
abbrev kE:K:=(.pair (.int .i64) (.pair iV (.pair iV (.pair iV (.pair SM (.pair SM (.pair .bool (.pair .str (.int .i64)))))))))
abbrev G5:K:=(.one (.sl kE))
def rr(xs:List ai)(ys:List an):Bool:=decide (xs.length≤50000000)&&(decide (ys.length≤50000000)&&xs.all fun v=>decide (v.2.1.length≤50000000))
def II(h:Heap)(id:Nat):List AV→Option (Bool×bU)
 |[.agg [.bT a,.bT b]]=>match fg h (.row 52 dN) (.bT a),fg h (.row 118 eR) (.bT b) with
  |some xs,some ys=>if a=b then none else some (rr xs ys,.new (.agg [.bT (id+128),.bT (id+129)]) [(id+128,.own (.row 52 dN) xs),(id+129,.own (.row 118 eR) ys)])
  |_,_=>none
 |_=>none
abbrev aeb(a:List PK)(b:List RK):aX:={ ps:=a,bs:=[],rs:=b }
abbrev aec:K:=.int .i64
def KP:=aeb [.val mF,.val kE] [.val mF,.val aec]
def Ub:=aeb [.val mF,.val kE] [.val mF,.val aec]
def ss:=aeb [.val dC,.val iV] [.val dN,.val .bool]
def BU:=aeb [.val iV] [.val .bool]
def wy:=aeb [.val dC,.val bA] [.val iV,.val .bool]
def zN:=aeb [.val dC,.val iV] [.val eR,.val .bool]
def KQ:=aeb [.val dC,.val bA] [.val (.sl bA)]
def Ge:=aeb [.val bA] [.val bA]
def tj:=aeb [.val (.sl bA),.val bA] [.val aec]
def Rj:=aeb [.val (.sl bA),.val bA] [.val bA,.val .bool]
def DV:=aeb [.val dC,.val dC] [.val .bool]
def zO:=aeb [.val .str] [.val .bool]
def BV:=aeb [.val aec] [.val .bool]
def Uc:=aeb [.val mF,.val G5] [.val mF,.val aec]
def KR:=aeb [.val dC] [.own (.row 50 (.sl bA))]
def KS:=aeb [.val dC] [.val aec]
def KT:=aeb [.val mF,.val G5] [.val mF,.val aec]
def Gf:=aeb [.val dC] [.agg [.own (.row 52 dN),.own (.row 118 eR)]]
def IJ:=aeb [.val dC] [.val aec]
def KU:=aeb [.val G5] [.val aec]
def Ny:=aeb [.val kE] [.val aec]
def Gg:=aeb [.val mF,.val (.sl kE)] [.val mF,.val aec]
def Rk:=aeb [.val kE] [.val aec]
def IK:=aeb [.val dC,.val dN] [.val dC]
def ru:=aeb [.val dC,.val iV,.val iV] [.val dC]
def Ud:=aeb [.val mF,.val kE] [.val mF,.val aec]
def Ue:=aeb [.val mF,.val kE] [.val mF,.val aec]
def Uf:=aeb [.val mF,.val kE] [.val mF,.val aec]
def BW:=aeb [.val mF,.val kE] [.val mF,.val aec]
def DW:=aeb [.val mF,.val kE] [.val mF,.val aec]
def Rl:=aeb [.val dC,.val bA] [.val bA,.val .bool]
def Gh:=aeb [.val dC,.val iV] [.val aec]
def u6:=aeb [.val dC] [.own (.row 3 aec)]
def IL:=aeb [.val (.sl bA),.val (.sl bA)] [.val .bool]
def KV:=aeb [.val G5] [.val aec]
def IM:=aeb [.val dC] [.own (.row 33 bA)]
def IN:=aeb [.val dC] [.agg [.own (.row 52 dN),.own (.row 118 eR)]]
def KW:=aeb [.val (.sl dx)] [.own (.row 54 dx)]
def Nz:=aeb [.val bA,.val bA] [.val aec]
def su:=aeb [.val dC] [.val aec]
def IP:=aeb [.val dC] [.val aec]
def Ug:=aeb [.val kE] [.val kE,.val aec]
def DX:aX:={ ps:=[.ref,.val kE],bs:=[.box 155 [.own (.row 52 dN),.own (.row 118 eR),.val (.sl dx)]],rs:=[.val aec] }
def Rm:=aeb [.val kE] [.val kE]
def Rn:=aeb [.val SM] [.val .bool]
def IQ:=aeb [.val iV,.val iV] [.val aec]
def Ro:=aeb [.val mF,.val SM] [.val SM,.val aec]
def BX:=aeb [.val dC,.val eR] [.val dC]
def BY:=aeb [.val dC,.val SM,.val bA] [.val dC]
def BZ:=aeb [.val (.sl dx),.val dx] [.val (.sl dx)]
def Rp:=aeb [.val dC,.val bA] [.val bA]
def Rq:=aeb [.val dC,.val bA] [.val dC]
def KX:=aeb [.val dC,.val bA,.val bA] [.val dC]
def rv:=aeb [.val (.sl bA)] [.own (.row 33 bA)]
def Uh:=aeb [.val dC,.val bA] [.val bA,.val .bool]
def Rr:=aeb [.val (.sl dN)] [.own (.row 52 dN)]
def Rs:=aeb [.val (.sl eR)] [.own (.row 118 eR)]
def B2:=aeb [.val (.sl bA)] [.own (.row 33 bA)]
def B3:=aeb [.val dC] [.val (.sl iV)]
def xQ:=aeb [.val (.sl iV)] [.val .bool]
def mG:=aeb [.val dC] [.val .bool]
def IS:=aeb [.val dC] [.val aec,.val aec,.val aec,.val aec]
def tl:=aeb [.val iV] [.val .bool]
def Gi:=aeb [.val SM] [.val .bool]
def zP:=aeb [.val .str] [.val .bool]
def KY:=aeb [.val aec] [.val .bool]
def KZ:aX:={ ps:=[.ref,.val dN],bs:=[.box 155 [.own (.row 52 dN),.own (.row 118 eR),.val (.sl dx)]],rs:=[.val aec] }
def Ui:aX:={ ps:=[.ref,.val kE],bs:=[.box 155 [.own (.row 52 dN),.own (.row 118 eR),.val (.sl dx)]],rs:=[.val aec] }
def qn:aX:={ ps:=[.ref,.val kE],bs:=[.box 155 [.own (.row 52 dN),.own (.row 118 eR),.val (.sl dx)]],rs:=[.val aec] }
def DY:aX:={ ps:=[.ref,.val kE],bs:=[.box 155 [.own (.row 52 dN),.own (.row 118 eR),.val (.sl dx)]],rs:=[.val aec] }
def B4:aX:={ ps:=[.ref,.val kE],bs:=[.box 155 [.own (.row 52 dN),.own (.row 118 eR),.val (.sl dx)]],rs:=[.val aec] }
def tn:aX:={ ps:=[.ref,.val kE],bs:=[.box 155 [.own (.row 52 dN),.own (.row 118 eR),.val (.sl dx)]],rs:=[.val aec] }
def Uj:aX:={ ps:=[.ref,.val kE],bs:=[.box 155 [.own (.row 52 dN),.own (.row 118 eR),.val (.sl dx)]],rs:=[.val aec] }
def Uk:=aeb [.val bA] [.val .bool]
def K0:=aeb [.val mF,.val bA] [.val bA]
def Gj:=aeb [.val dC,.val iV,.val (.sl bA)] [.val dC]
def Bp:=aeb [.val (.sl bA),.val bA,.val bA] [.own (.row 33 bA)]
def vv:=aeb [.val (.sl dx),.val bA] [.val bA,.val .bool]
def Bq:=aeb [.val (.sl bA),.val bA] [.own (.row 33 bA)]
def K1:=aeb [.val (.sl bA),.val bA,.val bA] [.own (.row 33 bA)]
def K2:=aeb [.val (.sl bA),.val bA] [.val bA,.val .bool]
def qo:=aeb [.val dC,.val bA] [.val aec]
def K3:=aeb [.val bA] [.val .bool]
def r9:aX:={ ps:=[.ref,.val iV],bs:=[.box 155 [.own (.row 52 dN),.own (.row 118 eR),.val (.sl dx)]],rs:=[.val aec,.val .bool] }
def aab:aX:={ ps:=[],bs:=[],rs:=[],x:=some (S8 52 dN) }
def aac:aX:={ ps:=[],bs:=[],rs:=[],x:=some (XO 52 dN) }
def Br:aX:={ ps:=[.ref,.val iV],bs:=[.box 155 [.own (.row 52 dN),.own (.row 118 eR),.val (.sl dx)]],rs:=[.val aec] }
def DZ:=aeb [.val iV] [.val bA,.val bA]
def K4:=aeb [.val mF,.val SM] [.val SM,.val aec]
def D0:=aeb [.val (.sl bA),.val bA,.val bA] [.own (.row 33 bA)]
def D1:=aeb [.val dC] [.val .bool]
def oW:aX:={ ps:=[.ref,.val iV],bs:=[.box 155 [.own (.row 52 dN),.own (.row 118 eR),.val (.sl dx)]],rs:=[.val aec,.val .bool] }
def D2:aX:={ ps:=[.ref,.val bA,.val bA],bs:=[.box 155 [.own (.row 52 dN),.own (.row 118 eR),.val (.sl dx)]],rs:=[] }
def D3:aX:={ ps:=[.ref,.val bA],bs:=[.box 155 [.own (.row 52 dN),.own (.row 118 eR),.val (.sl dx)]],rs:=[.val bA] }
def nR:aX:={ ps:=[.ref,.val bA],bs:=[.box 155 [.own (.row 52 dN),.own (.row 118 eR),.val (.sl dx)]],rs:=[.fW 0 [(0,5,0)]] }
def D4:=aeb [.val (.sl bA),.val bA] [.own (.row 33 bA)]
def aad:aX:={ ps:=[],bs:=[],rs:=[],x:=some (XO 118 eR) }
def vx:=aeb [.val (.sl bA),.val bA,.val bA] [.own (.row 33 bA)]
def qp:=aeb [.val bA] [.val bA]
def tp:=aeb [.val (.sl bA)] [.own (.row 33 bA)]
def K5:aX:={ ps:=[.ref,.val kE],bs:=[.box 155 [.own (.row 52 dN),.own (.row 118 eR),.val (.sl dx)]],rs:=[.fW 0 [(0,5,3),(1,4,2)],.fW 0 [(0,5,4),(1,4,3)]] }
def G6:=aeb [.val dN,.val iV] [.val aec]
def D5:=aeb [.val iV,.val iV] [.val aec]
def aae:aX:={ ps:=[],bs:=[],rs:=[],x:=some (S8 118 eR) }
def vz:=aeb [.val dC,.val iV] [.val dN,.val .bool]
def Bu:=aeb [.val mF,.val bA] [.val bA]
def xR:=aeb [.val (.sl bA),.val bA] [.val .bool]
def nS:=aeb [.val (.sl bA),.val bA] [.val aec]
def qq:=aeb [.val (.sl (.sl bA))] [.own (.row 33 bA)]
def K6:=aeb [.val dC] [.val aec]
def G7:=aeb [.val eR,.val iV] [.val aec]
def K7:=aeb [.val (.sl dx),.val dx] [.own (.row 54 dx)]
def D6:=aeb [.val (.sl bA),.val bA] [.val bA,.val .bool]
def G8:=aeb [.val bA,.val bA] [.val aec]
def qu:=aeb [.val (.sl (.sl bA))] [.own (.row 33 bA)]
def xS:=aeb [.val (.sl aec)] [.val aec]
def D7:=aeb [.val aec,.val aec] [.val aec]
def K8:=aeb [.val dN] [.val iV]
def vA:=aeb [.val dC,.val bA] [.val iV,.val .bool]
def K9:=aeb [.val (.sl dx),.val bA] [.val bA,.val .bool]
def La:=aeb [.val dC] [.val aec,.val aec,.val aec,.val aec]
def G9:=aeb [.val dx,.val bA] [.val aec]
def aaf:aX:={ ps:=[],bs:=[],rs:=[],x:=some (S8 54 dx) }
def D8:=aeb [.val (.sl bA),.val bA,.val aec] [.val bA,.val .bool]
def aag:aX:={ ps:=[],bs:=[],rs:=[],x:=some (OT 33 bA) }
def D9:=aeb [.val aec] [.val .bool]
def Lb:aX:={ ps:=[.val dx,.ref],bs:=[.box 33 [.val aec,.val aec,.val aec]],rs:=[.val .bool] }
def Lc:=aeb [.val dN] [.val .bool]
def Bv:=aeb [.val dC] [.own (.row 50 (.sl bA))]
def Bw:=aeb [.val dC] [.val aec]
def xT:=aeb [.val dC] [.own (.row 33 bA)]
def aah:=aeb [.val dC] [.own (.row 28 (.sl iV))]
def Hc:=aeb [.val dC,.val bA] [.val bA,.val .bool]
def ji:=aeb [.val dC] [.own (.row 3 aec)]
def Bx:=aeb [.val dC,.val bA] [.val bA,.val .bool]
def Ld:aX:={ ps:=[.own,.val aec,.val aec],bs:=[.own (.row 3 aec)],rs:=[] }
def tu:aX:={ ps:=[.own,.val aec],bs:=[.own (.row 3 aec)],rs:=[.val aec] }
def Le:=aeb [.val (.sl bA),.val bA] [.val bA,.val .bool]
def kf:=aeb [.val (.sl dN),.val iV,.JU 207 0] [.val aec,.val .bool]
def kg:=aeb [.val (.sl eR),.val iV,.JU 214 0] [.val aec,.val .bool]
def lR:=aeb [.val (.sl bA),.JU 195 0] [.val bA]
def lS:=aeb [.val (.sl dN),.JU 109 0,.val iV] [.val dN,.val .bool]
def kh:=aeb [.val (.sl dx),.val bA,.JU 232 0] [.val aec,.val .bool]
def ki:aX:={ ps:=[.val (.sl dx),.JU 245 1],bs:=[.box 33 [.val bA]],rs:=[.val aec] }
def lT:=aeb [.val (.sl dN),.JU 239 0] [.val aec]
def Lf:aX:={ ps:=[],bs:=[],rs:=[],x:=some II }
def Ul:=aeb [] []
abbrev k98:K:=(.pair G5 iV)
abbrev k99:K:=(.pair mF (.pair aec (.sl G5)))
abbrev jk:=(StateT×(Int×((List (List aW))×Unit)))
abbrev Q40:=((List aW)×ID)
abbrev Q41:=(((List (List aW))×(Int×Unit))×(jk×Unit))
abbrev Q42:=((StateT×Unit)×(jk×Unit))
abbrev Q0:=((Bool×Unit)×Unit)
abbrev Q1:=((StateT×(Int×Unit))×Unit)
abbrev Q2:=((Int×Unit)×Unit)
abbrev Q3:=(((List aW)×Unit)×Unit)
abbrev Q4:=((StateT×Unit)×Unit)
abbrev Q5:=((ak×Unit)×Unit)
abbrev Q6:=(((List ae)×Unit)×Unit)
abbrev Q7:=((ai×(Bool×Unit))×Unit)
abbrev Q8:=(List aW)
abbrev Q9:=((Int×Unit)×(jk×Unit))
abbrev Yk:=((an×(Bool×Unit))×Unit)
abbrev IT:=((ae×Unit)×Unit)
abbrev NA:=((ae×(Bool×Unit))×Unit)
abbrev Um:=((ID×(Bool×Unit))×Unit)
abbrev NB:=((Int×(Bool×Unit))×(bf×Unit))
abbrev Q15:=((StateT×(aW×Unit))×Unit)
abbrev Q16:=((StateT×((List aW)×Unit))×Unit)
abbrev Q17:=(((List (List aW))×Unit)×Unit)
abbrev Yl:=(((List aE)×Unit)×Unit)
abbrev Un:=((Int×Unit)×(bf×Unit))
abbrev XC:=((ak×(ae×Unit))×Unit)
abbrev Ym:=(((List ae)×(ae×Unit))×Unit)
abbrev Q22:=((aW×Unit)×(bf×Unit))
abbrev Q23:=((StateT×Unit)×((List (List aW))×Unit))
abbrev Q24:=(((List aW)×(Int×Unit))×Unit)
abbrev Q25:=(((List (List ae))×Unit)×Unit)
abbrev Q26:=((((List ai)×((List an)×Unit))×Unit)×Unit)
abbrev Q27:=((ml×Unit)×Unit)
abbrev Q28:=((Int×(Int×Unit))×(jk×Unit))
abbrev Q29:=((StateT×((List (List aW))×Unit))×Unit)
abbrev Q30:=((ak×(ID×Unit))×Unit)
abbrev Q31:=(((Option ((Fin 1)×Nat))×Unit)×(bf×Unit))
abbrev Q32:=(Unit×(jk×Unit))
abbrev Q33:=((ae×(ae×Unit))×Unit)
abbrev Q34:=(((List ae)×(ae×(ae×Unit)))×Unit)
abbrev Q35:=((Int×Unit)×((List Int)×Unit))
abbrev Q36:=((StateT×(Int×Unit))×(jk×Unit))
abbrev Q37:=(((List Bool)×Unit)×((List (List aW))×Unit))
abbrev Q38:=((Bool×(Int×Unit))×(((StateT×Unit)×((aW×Unit)×(bf×(((List ai)×((List an)×Unit))×Unit))))×Unit))
abbrev Q39:=((Int×Unit)×((bf×((ae×Unit)×((ae×Unit)×((ae×Unit)×Unit))))×Unit))
def apP(_:Heap)(id:Nat):List AV→Option (Bool×bU)
 |[]=>some (true,.new (.ref (id+128) 0 0 0) [(id+128,.box 100 (enc k99 (pW k99)))])
 |_=>none
def aju(h:Heap)(_:Nat):List AV→Option (Bool×bU)
 |[.ref i 0 0 0]=>match CV h i 100 with
  |some cs=>match dZ k99 cs with
   |some x=>some (true,.val (.int .i64 x.2.1))
   |none=>none
  |none=>none
 |_=>none
def anY(h:Heap)(id:Nat):List AV→Option (Bool×bU)
 |[.ref i 0 0 0]=>match CV h i 100 with
  |some cs=>match dZ k99 cs with
   |some x=>some (true,.new (.ref (id+128) 0 0 0) [(id+128,.box 100 (enc k99 x))])
   |none=>none
  |none=>none
 |_=>none
def Hd:=aeb [.val mF,.val G5] [.val .bool]
def Lg:=aeb [] [.val .bool]
def nT:=aeb [.val mF] [.val .bool]
def He:=aeb [.val mF,.val kE] [.own (.row 37 kE)]
def Lh:=aeb [.val G5] [.val G5]
def By:=aeb [.val mF,.val G5] [.own (.row 37 kE),.val aec]
def Bz:=aeb [.val mF,.val (.sl kE)] [.val mF,.val aec]
def vB:=aeb [.val iV,.val .bool,.val .str,.val aec] [.own (.row 37 kE)]
def Li:=aeb [.val dC,.val kE] [.own (.row 37 kE)]
def qv:=aeb [.val dC,.val kE] [.own (.row 37 kE)]
def Lj:=aeb [.val dC,.val kE] [.own (.row 37 kE)]
def Ea:=aeb [.val dC,.val iV] [.val eR,.val .bool]
def Hf:=aeb [.val dC,.val bA,.val bA] [.val SM]
def oX:=aeb [.val (.sl (.sl kE))] [.own (.row 37 kE)]
def Ll:=aeb [.val eR] [.val iV]
def lU:=aeb [.val (.sl eR),.JU 138 0,.val iV] [.val eR,.val .bool]
def aak:aX:={ ps:=[],bs:=[],rs:=[],x:=some (OT 37 kE) }
def Rt:=aeb [] []
def Ru:=aeb [] []
def Uo:=aeb [] []
def Rv:=aeb [] []
def sgs:List (Nat×aX):=[(73,KP),(45,Ub),(79,ss),(87,BU),(124,wy),(92,zN),(192,KQ),(121,Ge),(144,tj),(148,Rj),(55,DV),(91,zO),(90,BV),(63,Uc),(164,KR),(165,KS),(49,KT),(21,Gf),(72,IJ),(69,KU),(104,Ny),(103,Gg),(46,Rk),(80,IK),(81,ru),(82,Ud),(83,Ue),(84,Uf),(85,BW),(86,DW),(216,Rl),(217,Gh),(193,u6),(98,IL),(66,KV),(191,IM),(96,IN),(97,KW),(71,Nz),(106,su),(107,IP),(132,Ug),(131,DX),(88,Rm),(89,Rn),(105,IQ),(114,Ro),(115,BX),(116,BY),(117,BZ),(118,Rp),(119,Rq),(120,KX),(122,rv),(234,Uh),(127,Rr),(128,Rs),(110,B2),(133,B3),(134,xQ),(135,mG),(136,IS),(159,tl),(160,Gi),(161,zP),(162,KY),(152,KZ),(153,Ui),(154,qn),(155,DY),(156,B4),(157,tn),(158,Uj),(123,Uk),(143,K0),(145,Gj),(146,Bp),(147,vv),(126,Bq),(149,K1),(248,K2),(163,qo),(190,K3),(175,r9),(176,aab),(177,aac),(178,Br),(179,DZ),(180,K4),(181,D0),(172,D1),(182,oW),(183,D2),(184,D3),(185,nR),(141,D4),(186,aad),(187,vx),(188,qp),(169,tp),(189,K5),(207,G6),(208,D5),(211,aae),(74,vz),(212,Bu),(166,xR),(168,nS),(170,qq),(204,K6),(214,G7),(215,K7),(140,D6),(195,G8),(196,qu),(218,xS),(219,D7),(109,K8),(139,vA),(230,K9),(226,La),(232,G9),(233,aaf),(167,D8),(220,aag),(235,D9),(245,Lb),(239,Lc),(240,Bv),(241,Bw),(249,xT),(251,aah),(255,Hc),(256,ji),(258,Bx),(259,Ld),(260,tu),(261,Le),(208206,kf),(215213,kg),(196194,lR),(110108,lS),(233231,kh),(246244,ki),(240238,lT),(500096,Lf),(900025,Ul),(11,Hd),(42,Lg),(43,nT),(44,He),(47,Lh),(48,By),(53,Bz),(75,vB),(76,Li),(77,qv),(78,Lj),(111,Ea),(112,Hf),(113,oX),(138,Ll),(139137,lU),(142,aak),(2514003,Rt),(3537003,Ru),(900022,Uo),(2769003,Rv)]
def Sg(f:FuncId):Option aX:=(sgs.find? (fun p=>p.1==f)).map (fun p=>p.2)
def eqs:List (Nat×K):=[(31,iV),(33,bA),(35,SM),(37,kE),(118,eR),(54,dx)]
def Eqs(t:TypeId):Option K:=(eqs.find? (fun p=>p.1==t)).map (fun p=>p.2)
def Eb:Shape:=⟨[(6,.int .i64)],[(.slot 2,20000,.box 41 [.val dC]),(.slot 3,20001,.box 31 [.val iV]),(.slot 4,20002,.box 52 [.val aec,.val aec,.own (.row 33 bA),.val .str,.val aec])],[],[]⟩
def Ec:Shape:=⟨[(6,.int .i64)],[(.slot 2,20000,.box 41 [.val dC]),(.slot 3,20001,.box 33 [.val bA]),(.slot 4,20002,.box 31 [.val iV])],[],[]⟩
def Ed:Shape:=⟨[(6,.int .i64)],[(.slot 2,20000,.box 41 [.val dC]),(.slot 3,20001,.box 31 [.val iV]),(.slot 4,20002,.box 118 [.val eR])],[],[]⟩
def Ee:Shape:=⟨[],[(.slot 2,20000,.box 41 [.val dC]),(.slot 3,20001,.box 33 [.val bA]),(.slot 6,20002,.box 33 [.val bA])],[(5,31000,(.row 33 bA))],[]⟩
def Ef:Shape:=⟨[(0,.sl bA),(5,.int .i64)],[(.slot 3,20000,.box 33 [.val bA])],[],[]⟩
def Eg:Shape:=⟨[(5,.int .i64)],[(.slot 2,20000,.box 41 [.val dC]),(.slot 3,20001,.box 41 [.val dC])],[],[]⟩
def Eh:Shape:=⟨[(9,.int .i64)],[(.slot 2,20000,.box 41 [.val dC]),(.slot 3,20001,.box 41 [.val dC])],[],[]⟩
def Ei:Shape:=⟨[(0,.str),(3,.int .i64)],[],[],[]⟩
def zQ:Shape:=⟨[(6,.int .i64)],[(.slot 1,20000,.box 41 [.val dC])],[(3,31000,(.row 50 (.sl bA))),(4,31001,(.row 33 bA)),(5,31002,(.row 33 bA))],[]⟩
def zR:Shape:=⟨[(4,.int .i64),(5,.int .i64)],[],[(3,31000,(.row 3 aec))],[]⟩
def Ej:Shape:=⟨[(7,.int .i64)],[(.slot 2,20000,.box 44 [.val mF]),(.slot 3,20001,.box 27 [.val G5]),(.slot 4,20002,.box 44 [.own (.row 52 dN),.own (.row 118 eR),.own (.row 54 dx)])],[],[]⟩
def Ek:Shape:=⟨[(4,.int .i64)],[(.slot 1,20000,.box 41 [.val dC]),(.slot 2,20001,.box 41 [.own (.row 52 dN),.own (.row 118 eR)]),(.slot 3,20002,.box 41 [.own (.row 52 dN),.own (.row 118 eR)])],[],[]⟩
def El:Shape:=⟨[(3,.int .i64)],[(.slot 1,20000,.box 27 [.val G5])],[],[]⟩
def Em:Shape:=⟨[(18,.sl kE),(19,.int .i64),(20,.int .i64)],[(.slot 4,20000,.box 44 [.own (.row 52 dN),.own (.row 118 eR),.own (.row 54 dx)]),(.slot 6,20001,.box 155 [.own (.row 52 dN),.own (.row 118 eR),.val (.sl dx)])],[],[]⟩
def wz:Shape:=⟨[(6,.bool),(7,.int .i64)],[(.slot 2,20000,.box 41 [.val dC]),(.slot 3,20001,.box 52 [.val dN]),(.slot 4,20002,.box 41 [.own (.row 52 dN),.own (.row 118 eR)]),(.slot 5,20003,.box 41 [.own (.row 52 dN),.val (.sl eR)])],[],[]⟩
def zT:Shape:=⟨[(8,.int .i64)],[(.slot 3,20000,.box 41 [.val dC]),(.slot 4,20001,.box 31 [.val iV]),(.slot 5,20002,.box 31 [.val iV]),(.slot 6,20003,.box 41 [.own (.row 52 dN),.own (.row 118 eR)]),(.slot 7,20004,.box 41 [.own (.row 52 dN),.own (.row 118 eR)])],[],[]⟩
def zU:Shape:=⟨[(9,.int .i64)],[(.slot 3,20000,.box 41 [.val dC]),(.slot 5,20001,.box 31 [.val iV]),(.slot 6,20002,.box 41 [.own (.row 52 dN),.own (.row 118 eR)]),(.slot 7,20003,.box 41 [.own (.row 52 dN),.own (.row 118 eR)])],[],[]⟩
def nV:Shape:=⟨[(12,.sl dx),(13,.int .i64)],[(.slot 4,20000,.box 44 [.own (.row 52 dN),.own (.row 118 eR),.own (.row 54 dx)]),(.slot 8,20001,.box 33 [.val bA]),(.slot 9,20002,.box 33 [.val bA]),(.slot 10,20003,.box 33 [.val bA]),(.slot 11,20004,.box 41 [.val dC])],[],[]⟩
def tx:Shape:=⟨[(7,.bool),(8,.int .i64)],[(.slot 2,20000,.box 44 [.val mF]),(.slot 3,20001,.box 37 [.val kE]),(.slot 4,20002,.box 44 [.own (.row 52 dN),.own (.row 118 eR),.own (.row 54 dx)]),(.slot 6,20003,.box 41 [.own (.row 52 dN),.own (.row 118 eR)])],[],[]⟩
def tz:Shape:=⟨[(7,.bool),(9,.int .i64)],[(.slot 2,20000,.box 44 [.val mF]),(.slot 3,20001,.box 37 [.val kE]),(.slot 4,20002,.box 44 [.own (.row 52 dN),.own (.row 118 eR),.own (.row 54 dx)]),(.slot 6,20003,.box 41 [.own (.row 52 dN),.own (.row 118 eR)])],[],[]⟩
def En:Shape:=⟨[(5,.int .i64)],[(.slot 2,20000,.box 41 [.val dC]),(.slot 3,20001,.box 31 [.val iV])],[],[]⟩
def Eo:Shape:=⟨[(4,.int .i64)],[(.slot 1,20000,.box 41 [.val dC])],[(3,31000,(.row 3 aec))],[]⟩
def zX:Shape:=⟨[(5,.int .i64)],[(.slot 1,20000,.box 41 [.val dC])],[(3,31000,(.row 3 aec))],[]⟩
def tB:Shape:=⟨[(5,.int .i64),(6,.int .i64)],[(.slot 1,20000,.box 41 [.val dC])],[(3,31000,(.row 3 aec))],[]⟩
def Ep:Shape:=⟨[(0,.sl bA),(1,.sl bA),(5,.int .i64)],[],[],[]⟩
def Er:Shape:=⟨[(17,.sl kE),(18,.int .i64),(19,.int .i64)],[],[],[]⟩
def Es:Shape:=⟨[(4,.int .i64)],[(.slot 1,20000,.box 41 [.val dC])],[(3,31000,(.row 33 bA))],[]⟩
def Et:Shape:=⟨[(14,.int .i64),(15,.int .i64)],[(.slot 2,20000,.box 41 [.own (.row 52 dN),.own (.row 118 eR)]),(.slot 3,20001,.box 41 [.own (.row 52 dN),.own (.row 118 eR)])],[],[]⟩
def wA:Shape:=⟨[(6,.bool),(7,.int .i64)],[(.slot 2,20000,.box 41 [.val dC]),(.slot 3,20001,.box 118 [.val eR]),(.slot 4,20002,.box 41 [.own (.row 52 dN),.own (.row 118 eR)]),(.slot 5,20003,.box 41 [.val (.sl dN),.own (.row 118 eR)])],[],[]⟩
def mr:Shape:=⟨[(0,.sl dx),(8,.bool),(9,.int .i64)],[(.slot 3,20000,.box 54 [.val dx])],[(7,31000,(.row 54 dx))],[]⟩
def zY:Shape:=⟨[(0,.sl bA),(3,.int .i64),(4,.int .i64)],[],[],[]⟩
def Eu:Shape:=⟨[(0,.sl bA),(3,.int .i64),(6,.int .i64)],[],[(5,31000,(.row 33 bA))],[]⟩
def Ev:Shape:=⟨[(4,.int .i64)],[(.slot 1,20000,.box 41 [.val dC])],[(3,31000,(.row 31 iV))],[]⟩
def zZ:Shape:=⟨[(5,.int .i64)],[(.slot 1,20000,.box 41 [.val dC])],[(3,31000,(.row 31 iV))],[]⟩
def z5:Shape:=⟨[(0,.sl iV),(3,.int .i64)],[],[],[]⟩
def wB:Shape:=⟨[(3,.int .i64)],[(.slot 1,20000,.box 41 [.val dC])],[],[]⟩
def z6:Shape:=⟨[(3,.int .i64),(4,.sl bA),(6,.int .i64)],[(.slot 1,20000,.box 41 [.val dC])],[],[]⟩
def z7:Shape:=⟨[(9,.int .i64)],[(.slot 1,20000,.box 41 [.val dC])],[],[]⟩
def wC:Shape:=⟨[(9,.int .i64),(10,.int .i64)],[(.slot 1,20000,.box 41 [.val dC])],[],[]⟩
def wD:Shape:=⟨[(6,.int .i64),(7,.int .i64)],[(.slot 1,20000,.box 41 [.val dC])],[],[]⟩
def z8:Shape:=⟨[(0,.str)],[],[(6,31000,.pV)],[]⟩
def nW:Shape:=⟨[(48,.int .i64),(49,.int .i64)],[(.slot 0,1000,.box 155 [.own (.row 52 dN),.own (.row 118 eR),.val (.sl dx)]),(.slot 5,20001,.box 44 [.val mF]),(.slot 7,20002,.box 33 [.val bA])],[(9,31000,(.row 33 bA)),(47,31001,(.row 35 SM))],[]⟩
def IU:Shape:=⟨[(5,.int .i64),(32,.int .i64),(33,.int .i64)],[(.slot 0,1000,.box 155 [.own (.row 52 dN),.own (.row 118 eR),.val (.sl dx)]),(.slot 7,20001,.box 33 [.val bA]),(.slot 8,20002,.box 33 [.val bA])],[(31,31000,(.row 33 bA))],[]⟩
def Aa:Shape:=⟨[(5,.int .i64),(47,.int .i64),(48,.int .i64)],[(.slot 0,1000,.box 155 [.own (.row 52 dN),.own (.row 118 eR),.val (.sl dx)])],[(46,31000,(.row 33 bA))],[]⟩
def pK:Shape:=⟨[(113,.int .i64)],[(.slot 0,1000,.box 155 [.own (.row 52 dN),.own (.row 118 eR),.val (.sl dx)]),(.slot 8,20001,.box 33 [.val bA]),(.slot 9,20002,.box 33 [.val bA]),(.slot 10,20003,.box 33 [.val bA])],[],[]⟩
def Ew:Shape:=⟨[(5,.int .i64)],[(.slot 2,20000,.box 44 [.val mF]),(.slot 3,20001,.box 33 [.val bA]),(.slot 4,20002,.box 33 [.val bA])],[],[]⟩
def Ab:Shape:=⟨[(2,.sl bA),(8,.int .i64)],[(.slot 4,20000,.box 31 [.val iV]),(.slot 6,20001,.box 41 [.own (.row 52 dN),.own (.row 118 eR)]),(.slot 7,20002,.box 41 [.own (.row 52 dN),.own (.row 118 eR)])],[],[]⟩
def uA:Shape:=⟨[(0,.sl bA),(7,.int .i64),(9,.int .i64)],[(.slot 5,20000,.box 33 [.val bA])],[(8,31000,(.row 33 bA))],[]⟩
def xU:Shape:=⟨[(0,.sl dx),(6,.int .i64)],[(.slot 3,20000,.box 33 [.val bA]),(.slot 4,20001,.box 33 [.val bA])],[],[]⟩
def uB:Shape:=⟨[(0,.sl bA),(6,.int .i64)],[(.slot 3,20000,.box 33 [.val bA])],[(5,31000,(.row 33 bA))],[]⟩
def uC:Shape:=⟨[(5,.int .i64),(6,.int .i64)],[(.slot 2,20000,.box 41 [.val dC]),(.slot 3,20001,.box 33 [.val bA])],[],[]⟩
def ry:Shape:=⟨[(5,.int .i64),(6,.int .i64),(7,.int .i64)],[(.slot 2,20000,.box 41 [.val dC]),(.slot 3,20001,.box 33 [.val bA])],[],[]⟩
def Ct:Shape:=⟨[(7,.int .i64)],[(.slot 0,1000,.box 155 [.own (.row 52 dN),.own (.row 118 eR),.val (.sl dx)]),(.slot 3,20001,.box 33 [.val bA]),(.slot 4,20002,.box 33 [.val bA]),(.slot 5,20003,.box 33 [.val bA])],[],[]⟩
def xV:Shape:=⟨[(12,.int .i64),(13,.int .i64)],[(.slot 0,1000,.box 155 [.own (.row 52 dN),.own (.row 118 eR),.val (.sl dx)]),(.slot 3,20001,.box 33 [.val bA])],[],[]⟩
def xW:Shape:=⟨[(12,.int .i64),(13,.int .i64)],[(.slot 2,20000,.box 44 [.val mF]),(.slot 3,20001,.box 33 [.val bA]),(.slot 4,20002,.box 33 [.val bA])],[],[]⟩
def xX:Shape:=⟨[(0,.sl bA),(7,.int .i64),(8,.int .i64)],[(.slot 3,20000,.box 33 [.val bA])],[],[]⟩
def xY:Shape:=⟨[(0,.sl (.sl bA)),(3,.int .i64),(9,.sl (.sl bA)),(10,.int .i64),(11,.int .i64)],[],[],[]⟩
def xZ:Shape:=⟨[(25,.sl (.sl bA)),(26,.int .i64),(27,.int .i64)],[],[(6,31000,(.row 33 bA))],[]⟩
def Cu:Shape:=⟨[(3,.int .i64),(6,.sl aec),(7,.int .i64),(8,.int .i64)],[],[],[]⟩
def ya:Shape:=⟨[(9,.sl dN),(10,.int .i64),(11,.int .i64)],[(.slot 3,20000,.box 33 [.val bA]),(.slot 4,20001,.box 31 [.val iV])],[],[]⟩
def yc:Shape:=⟨[(8,.sl eR),(9,.int .i64),(10,.int .i64)],[],[(3,31000,(.row 33 bA))],[]⟩
def uD:Shape:=⟨[(18,.sl dN),(19,.int .i64),(20,.int .i64)],[],[(3,31000,(.row 3 aec)),(4,31001,(.map bA aec))],[]⟩
def yd:Shape:=⟨[(5,.int .i64),(18,.sl dN),(19,.int .i64),(20,.int .i64),(30,.sl bA),(31,.int .i64),(32,.int .i64)],[],[(3,31000,(.row 3 aec)),(4,31001,(.map bA aec))],[]⟩
def rz:Shape:=⟨[(4,.mp bA aec)],[],[(3,31000,(.row 3 aec)),(42,31001,(.iter bA aec))],[]⟩
def yf:Shape:=⟨[(61,.int .i64),(62,.int .i64)],[],[(3,31000,(.row 3 aec)),(13,31001,(.row 3 aec))],[]⟩
def yg:Shape:=⟨[(11,.sl dN),(12,.int .i64),(13,.int .i64)],[(.slot 3,20000,.box 33 [.val bA]),(.slot 4,20001,.box 33 [.val bA])],[],[]⟩
def uE:Shape:=⟨[(1,.int .i64)],[],[(0,1000,(.row 3 aec))],[]⟩
def jG:Shape:=⟨[(0,.sl dN),(8,.int .i64),(9,.int .i64),(10,.int .i64)],[(.slot 4,20000,.box 31 [.val iV])],[],[(2,207,[])]⟩
def jH:Shape:=⟨[(0,.sl eR),(8,.int .i64),(9,.int .i64),(10,.int .i64)],[(.slot 4,20000,.box 31 [.val iV])],[],[(2,214,[])]⟩
def kU:Shape:=⟨[(0,.sl bA),(6,.int .i64)],[(.slot 4,20000,.box 33 [.val bA]),(.slot 5,20001,.box 33 [.val bA])],[],[(1,195,[])]⟩
def nX:Shape:=⟨[(11,.sl dN),(12,.int .i64),(13,.int .i64)],[(.slot 5,20000,.box 31 [.val iV]),(.slot 6,20001,.box 52 [.val aec,.val aec,.own (.row 33 bA),.val .str,.val aec])],[],[(1,109,[])]⟩
def jI:Shape:=⟨[(0,.sl dx),(8,.int .i64),(9,.int .i64),(10,.int .i64)],[(.slot 4,20000,.box 33 [.val bA])],[],[(2,232,[])]⟩
def kV:Shape:=⟨[(0,.sl dx),(7,.int .i64),(8,.int .i64)],[(.cap 1 0,1000,.box 33 [.val bA])],[],[(1,245,[1000])]⟩
def kW:Shape:=⟨[(5,.int .i64),(8,.sl dN),(9,.int .i64),(10,.int .i64)],[],[],[(1,239,[])]⟩
def rB:Shape:=⟨[(4,.int .i64),(7,.bool),(8,.bool),(9,.int .i64)],[(.slot 1,20000,.box 41 [.val dC])],[],[]⟩
def rC:Shape:=⟨[(7,.bool),(8,.bool),(10,.int .i64)],[(.slot 1,20000,.box 41 [.val dC])],[],[]⟩
def yh:Shape:=⟨[(3,.int .i64)],[(.slot 1,20000,.box 44 [.val mF])],[],[]⟩
def yi:Shape:=⟨[(23,.sl kE),(24,.int .i64),(25,.int .i64)],[(.slot 2,20000,.box 44 [.val mF])],[(8,31000,(.row 37 kE))],[]⟩
def yj:Shape:=⟨[(18,.sl kE),(19,.int .i64),(20,.int .i64)],[(.slot 4,20000,.box 44 [.val mF]),(.slot 6,20001,.box 44 [.val mF])],[],[]⟩
def kj:Shape:=⟨[(32,.sl bA),(33,.int .i64),(34,.int .i64)],[(.slot 3,20000,.box 37 [.val kE]),(.slot 5,20001,.box 52 [.val dN]),(.slot 7,20002,.box 118 [.val eR]),(.slot 9,20003,.box 37 [.val kE])],[],[]⟩
def uF:Shape:=⟨[(0,.sl (.sl kE)),(3,.int .i64),(9,.sl (.sl kE)),(10,.int .i64),(11,.int .i64)],[],[],[]⟩
def rD:Shape:=⟨[(25,.sl (.sl kE)),(26,.int .i64),(27,.int .i64)],[],[(6,31000,(.row 37 kE))],[]⟩
def nY:Shape:=⟨[(11,.sl eR),(12,.int .i64),(13,.int .i64)],[(.slot 5,20000,.box 31 [.val iV]),(.slot 6,20001,.box 118 [.val eR])],[],[(1,138,[])]⟩
def ans:List (Nat×List (Nat×Shape)):=[(106,[(12,rB),(17,rC)]),(79,[(2,Eb)]),(124,[(2,Ec)]),(92,[(2,Ed)]),(192,[(6,Ee)]),(144,[(2,Ef)]),(55,[(4,Eg),(12,Eh)]),(91,[(2,Ei)]),(164,[(5,zQ)]),(165,[(4,zR)]),(49,[(5,Ej)]),(21,[(3,Ek)]),(69,[(4,El)]),(103,[(3,Em)]),(80,[(4,wz)]),(81,[(3,zT),(8,zU)]),(85,[(18,nV)]),(86,[(4,tx),(12,tz)]),(217,[(2,En)]),(193,[(3,Eo),(7,zX),(10,tB)]),(98,[(4,Ep)]),(66,[(4,Er)]),(191,[(3,Es)]),(96,[(3,Et)]),(115,[(4,wA)]),(117,[(7,mr)]),(122,[(3,zY),(9,Eu)]),(133,[(3,Ev),(7,zZ)]),(134,[(2,z5)]),(135,[(2,wB),(9,z6),(15,z7),(18,wC)]),(136,[(3,wD)]),(161,[(2,z8)]),(154,[(8,nW)]),(155,[(6,IU),(11,Aa)]),(157,[(19,pK)]),(143,[(2,Ew)]),(145,[(3,Ab)]),(146,[(6,uA)]),(147,[(2,xU)]),(126,[(3,uB)]),(163,[(3,uC),(6,ry)]),(184,[(3,Ct)]),(185,[(2,xV)]),(212,[(2,xW)]),(168,[(2,xX)]),(196,[(3,xY),(11,xZ)]),(218,[(3,Cu)]),(139,[(2,ya)]),(249,[(3,yc)]),(256,[(4,uD),(8,yd),(14,rz),(21,yf)]),(258,[(2,yg)]),(260,[(1,uE)]),(208206,[(3,jG)]),(215213,[(3,jH)]),(196194,[(5,kU)]),(110108,[(2,nX)]),(233231,[(3,jI)]),(246244,[(2,kV)]),(240238,[(3,kW)]),(43,[(2,yh)]),(48,[(6,yi)]),(53,[(3,yj)]),(77,[(5,kj)]),(113,[(3,uF),(11,rD)]),(139137,[(2,nY)])]
def An(f:FuncId)(key:Nat):Option Shape:=(ans.find? (fun p=>p.1==f)).bind fun p=>(p.2.find? (fun q=>q.1==key)).map (fun q=>q.2)
abbrev JT(g:aX):=(sh:Shape)→List Item→sh.T→Option g.B
noncomputable def cm(f:FuncId)(g:aX)(fn:Func)(F:FT)(J:JT g)(x:g.A):Option g.B:=aG Tryz.prog Eqs Sg F fn.ntmps (An f) J (sW Tryz.prog g fn) fuel [.code (fn.body.getD .skip)] (entry g x)
noncomputable def fO(f j:Nat)(g:aX)(fn:Func)(sh:Shape)(F:FT)(J:JT g)(x:sh.T):Option g.B:=aG Tryz.prog Eqs Sg F fn.ntmps (An f) J (sW Tryz.prog g fn) fuel (round (aS Tryz.prog (f%1000) j)) (aA sh x)
end Go.Vs
namespace Go.Vs
open Go.Proofs
variable {G:(f:FuncId)→(g:aX)→Option (g.A→Option g.B)}
noncomputable abbrev FX(G:(f:FuncId)→(g:aX)→Option (g.A→Option g.B)):FT:=Fix Tryz.prog Eqs Sg An G
noncomputable abbrev LX(G:(f:FuncId)→(g:aX)→Option (g.A→Option g.B))(f:FuncId)(g:aX)(fn:Func):JT g:=Lp Tryz.prog Eqs Sg An G f g fn
abbrev HG(G:(f:FuncId)→(g:aX)→Option (g.A→Option g.B)):Prop:=∀f g,(f==240 || f==241)=false→G f g=none
theorem aB{f:FuncId}{g:aX}{fn:Func}{x:g.A}{y:g.B}{z:Option g.B}(hG:G f g=none)(e:cm f g fn (FX G) (LX G f g fn) x=z)(h:z=some y) (hb:body Tryz.prog (f%1000)=some (fn,fn.body.getD .skip):=by kernel_rfl) (hc:(decide (g.ps.length≤fn.ntmps)&&decide (g.bs.length≤8))=true:=by kernel_rfl):FX G f g x=some y:=O6 hG hb hc (e.trans h)
theorem ax{f j:Nat}{g:aX}{fn:Func}{sh:Shape}{x:sh.T}{y:g.B}{z:Option g.B}(e:fO f j g fn sh (FX G) (LX G f g fn) x=z)(h:z=some y) (hs:(match aS Tryz.prog (f%1000) j with | .inLoop _::_=>true|_=>false)=true:=by kernel_rfl):LX G f g fn sh (aS Tryz.prog (f%1000) j) x=some y:=by
 have h:=e.trans h;unfold fO at h;generalize aS Tryz.prog (f%1000) j=s at hs h ⊢
 split at hs
 ·exact Ua h
 ·cases hs
abbrev aai:=(Int×Unit)
abbrev aaj:=(((List ai)×((List an)×Unit))×(((List ai)×((List an)×Unit))×Unit))
abbrev aal:=(ae×Unit)
abbrev aam:=(Int×aai)
abbrev aap:=((ak×Unit)×Unit)
abbrev aaq:=(ID×Unit)
abbrev aar:=((List ae)×Unit)
abbrev aas:=(aal×Unit)
abbrev aat:=(ak×Unit)
abbrev aau:=((List Int)×Unit)
abbrev aav:=(Unit×Unit)
abbrev aaw:=(StateT×Unit)
abbrev aax:=(bf×Unit)
abbrev aaB:=((List ae)×aai)
abbrev aaN:=((List ae)×aam)
abbrev aaO:=(aW×Unit)
abbrev aaS:=(aaq×Unit)
abbrev aaT:=(aaq×((Int×(Int×((List ae)×(ByteArray×aai))))×Unit))
abbrev aaU:=((List ai)×aam)
abbrev aaW:=(aap×Unit)
end Go.Vs
