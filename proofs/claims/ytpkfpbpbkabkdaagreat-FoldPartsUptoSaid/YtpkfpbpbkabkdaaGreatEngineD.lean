/- The value semantics is sound -/
import Derived.Test.YtpkfpbpbkabkdaaGreatEngineC
import Derived.Test.YtpkfpbpbkabkdaaGreatProg
import Derived.Scope
import Derived.KernelRfl
set_option linter.unusedSimpArgs false
set_option linter.unusedVariables false
namespace Go.Vs
variable {P:Program} {Eqs:TypeId→Option K} {Sg:FuncId→Option aO} {F:(f:FuncId)→(g:aO)→g.A→Option g.B} {R:Type}
variable {Z Z' Z0:Nat→Prop} {ψ ψ' ψ0:Nat→Value} {h h':Hp} {w w' w0:World} {B0:Nat} {O N:Nat→Prop}
def fe(st:St):(l:List (Nat×Nat×OK))→JV (l.map (·.2.2))→List yr
 |[],_=>[]
 |(s,id,ok)::r,x=>(id,(pf (look st.tmps s)).head?,.own ok x.1)::fe st r x.2
theorem vA(st:St):∀(l:List (Nat×Nat×OK)) (x:JV (l.map (·.2.2))),dy (fe st l x)=q8 l x
 |[],_=>rfl
 |(s,id,ok)::r,x=>by simp only[fe,q8];rw[←vA st r x.2];rfl
theorem tJ(st:St):∀(l:List (Nat×Nat×OK)) (x:JV (l.map (·.2.2))),(fe st l x).map (·.1)=l.map (·.2.1)
 |[],_=>rfl
 |(s,id,ok)::r,x=>by simp only[fe,List.map_cons];rw[tJ st r x.2]
theorem yI(st:St):∀(l:List (Nat×Nat×OK)) (x:JV (l.map (·.2.2))),(fe st l x).filterMap (·.2.1)=l.flatMap fun p=>pf (look st.tmps p.1)
 |[],_=>rfl
 |(s,id,ok)::r,x=>by simp only[fe,List.flatMap_cons];rw[dJ,yI st r x.2];simp only[];rw[w6]
theorem rq{st:St}{s id:Nat}{ok:OK}{r:List (Nat×Nat×OK)}{x:JV (((s,id,ok)::r).map (·.2.2))}(hd:nI st ((s,id,ok)::r)=some x):dN st.heap ok (look st.tmps s)=some x.1∧nI st r=some x.2:=by
 have e:nI st ((s,id,ok)::r)=(match dN st.heap ok (look st.tmps s),nI st r with
  |some x,some y=>some ((x,y):ok.T×JV (r.map (·.2.2)))
  |_,_=>none):=rfl
 rw[e]at hd;clear e;generalize dN st.heap ok (look st.tmps s)=o1 at hd ⊢;generalize nI st r=o2 at hd ⊢
 cases o1 with
 |none=>cases hd
 |some x1 =>
  cases o2 with
  |none=>cases hd
  |some y1=>have:=ab5 hd;subst this;exact⟨rfl,rfl⟩
theorem Bw{hd:Hp}{st:St}:∀(l:List (Nat×Nat×OK)) (x:JV (l.map (·.2.2))),nI st l=some x→(∀s∈(l.flatMap fun p=>pf (look st.tmps p.1)),hd s=st.heap.get s) → ∀e∈fe st l x,vn Z ψ hd w h' ψ' e
 |[],_,_,_,e,he=>by simp[fe]at he
 |(s,id,ok)::r,x,hx,hk,e,he=>by
  obtain⟨h1,h2⟩:=rq hx;simp only[List.flatMap_cons]at hk;simp only[fe]at he;rcases abw.1 he with rfl|he
  ·exact LS h1 fun s hs=>hk s (abK _ hs)
  ·exact Bw r x.2 h2 (fun s hs=>hk s (abx _ hs)) e he
theorem HI{st:St}{s:Nat}{k:K}{r:List (Nat×K)}{x:GR (((s,k)::r).map (·.2))}(hd:q6 st ((s,k)::r)=some x):fR k st.heap (look st.tmps s)=some x.1∧q6 st r=some x.2:=by
 have e:q6 st ((s,k)::r)=(match fR k st.heap (look st.tmps s),q6 st r with
  |some x,some y=>some ((x,y):k.T×GR (r.map (·.2)))
  |_,_=>none):=rfl
 rw[e]at hd;clear e;generalize fR k st.heap (look st.tmps s)=o1 at hd ⊢;generalize q6 st r=o2 at hd ⊢
 cases o1 with
 |none=>cases hd
 |some x1 =>
  cases o2 with
  |none=>cases hd
  |some y1=>have:=ab5 hd;subst this;exact⟨rfl,rfl⟩
theorem eL{T:List (Nat×AV)}{n:Nat}{a:Act}(fq:∀p∈T,au Z ψ h w p.2 (a.tmps.getD p.1 undef))(hs:a.tmps.size=n)(hd:a.defers=[]):cK Z ψ h w n (look T) a:=by
 refine⟨fun d=>?_,hs,hd⟩
 induction T with
 |nil=>simp only[look,au]
 |cons p r ih =>
  obtain⟨i,v⟩:=p;simp only[look]
  split
  ·rename_i e;subst e;exact fq _ abZ
  ·exact ih fun p hp=>fq p (abq _ hp)
section
variable {st:St} {n:Nat} {a:Act}
theorem vB(g:Good Z ψ st.heap.get w B0 O)(t:cK Z ψ st.heap.get w n (look st.tmps) a)(hz:∀b,Z b→Z' b):∀(l:List (Nat×K)) (x:GR (l.map (·.2))),q6 st l=some x →(∀id b,AV.bC id∈(l.flatMap fun p=>(look st.tmps p.1).cells)→st.heap.get id≠none→ob (ψ id)=some b→Z' b)→∀p∈q7 l x,au Z' ψ' h' w p.2 (a.tmps.getD p.1 undef)
 |[],_,_,_,p,hp=>by simp[q7]at hp
 |(s,k)::r,x,hx,hf,p,hp=>by
  obtain⟨h1,h2⟩:=HI hx;simp only[List.flatMap_cons]at hf;simp only[q7]at hp;rcases abw.1 hp with rfl|hp
  ·exact si g hz (fun id b br=>hf id b (abK _ br)) h1 (t.rep s)
  ·exact vB g t hz r x.2 h2 (fun id b br=>hf id b (abx _ br)) p hp
theorem tK(t:cK Z ψ st.heap.get w n (look st.tmps) a):∀(l:List (Src×Nat×BK)) (ids:List Nat),Fk st l=some ids→(∀i∈ids,st.heap.get i≠none) →(∀p∈ids.zip (l.map (·.2.1)),h' p.2≠none→ψ' p.2=ψ p.1)→∀p∈jS l,au Z' ψ' h' w p.2 (a.tmps.getD p.1 undef)
 |[],_,_,_,_,p,hp=>by simp[jS]at hp
 |(src,mP,b)::r,ids,hx,hi,jm,p,hp=>by
  simp only[Fk]at hx
  split at hx
  ·rename_i i is h1 h2
   cases hx
   simp only[List.map_cons,List.zip_cons_cons]at jm;have ih:=tK t r is h2 (fun j hj=>hi j (abq _ hj)) (fun p hp=>jm p (abq _ hp)) p
   cases src with
   |slot s =>
    simp only[jS]at hp;rcases abw.1 hp with rfl|hp
    ·simp only[VT]at h1;obtain⟨sz,h3⟩:=pM h1;have h4:=t.rep s;rw[h3]at h4;exact zN h4 (hi i abZ) (jm (i,mP) abZ)
    ·exact ih hp
   |cap s j=>exact ih (by simpa only[jS] using hp)
  ·cases hx
theorem HJ{hh:Heap}{ids:List (Nat×Nat)}(hi:∀p∈ids,hh.get p.1≠none)(jm:∀p∈ids,h' p.2≠none→ψ' p.2=ψ p.1):∀(cap:List AV) (is C9:List Nat) (vs:List Value),jQ cap=some is → is.map (fun i=>(ids.find? (·.1==i)).map (·.2))=C9.map some→an Z ψ hh.get w cap vs→an Z' ψ' h' w (C9.map fun i=>.ref i 0 0 0) vs
 |[],is,C9,vs,h1,h2,hr=>by
  simp only[jQ]at h1
  cases h1
  cases C9 with
  |nil=>simpa only[List.map_nil,an] using hr
  |cons c r=>simp at h2
 |v::cap,is,C9,vs,h1,h2,hr=>by
  simp only[jQ]at h1
  split at h1
  ·rename_i i is' h3 h4
   cases h1
   cases C9 with
   |nil=>simp at h2
   |cons c r =>
    simp only[List.map_cons,List.cons.injEq]at h2;obtain⟨h5,h6⟩:=h2;simp only[List.map_cons,an]at hr ⊢;obtain⟨u,us,rfl,h7,h8⟩:=hr;obtain⟨sz,rfl⟩:=pM h3
    cases hf:ids.find? (·.1==i) with
    |none=>rw[hf]at h5;cases h5
    |some p =>
     rw[hf]at h5;have hm:=adj hf;have he:=adP hf;simp only[Option.map_some,Option.some.injEq]at h5;have JB:p.1=i:=by simpa using he
     refine⟨u,us,rfl,zN h7 (by rw[←JB];exact hi p hm) (fun hn=>?_),HJ hi jm cap is' r us h4 h6 h8⟩;rw[←h5,←JB];exact jm p hm (by rw[h5];exact hn)
  ·cases h1
theorem yJ(t:cK Z ψ st.heap.get w n (look st.tmps) a){ids:List (Nat×Nat)}(hi:∀p∈ids,st.heap.get p.1≠none)(jm:∀p∈ids,h' p.2≠none→ψ' p.2=ψ p.1):∀(l:List (Nat×FuncId×List Nat)),LN st ids l=true → ∀p∈zB l,au Z' ψ' h' w p.2 (a.tmps.getD p.1 undef)
 |[],_,p,hp=>by simp[zB]at hp
 |(s,f,C9)::r,hx,p,hp=>by
  simp only[LN,Bool.and_eq_true]at hx;simp only[zB,List.map_cons]at hp;rcases abw.1 hp with rfl|hp
  ·have h1:=hx.1
   split at h1
   ·rename_i f' cap hl;simp only[Bool.and_eq_true,decide_eq_true_eq]at h1;obtain⟨rfl,h2⟩:=h1
    split at h2
    ·rename_i is hri;have h4:=t.rep s;rw[hl]at h4;simp only[au]at h4 ⊢;obtain⟨vs,h5,h6⟩:=h4;exact⟨vs,h5,HJ hi jm cap is C9 _ hri (of_decide_eq_true h2) h6⟩
    ·cases h2
   ·cases h1
  ·exact yJ t hi jm r hx.2 p hp
theorem vC(t:cK Z ψ st.heap.get w n (look st.tmps) a):∀(l:List (Nat×Nat×OK)) (x:JV (l.map (·.2.2))),nI st l=some x→(∀e∈fe st l x,h' e.1≠none→ψ' e.1=jV ψ e.2.1) → ∀p∈(l.map fun p=>(p.1,AV.bC p.2.1)),au Z' ψ' h' w p.2 (a.tmps.getD p.1 undef)
 |[],_,_,_,p,hp=>by simp at hp
 |(s,id,ok)::r,x,hx,jm,p,hp=>by
  obtain⟨h1,h2⟩:=rq hx;simp only[fe]at jm;simp only[List.map_cons]at hp;rcases abw.1 hp with rfl|hp
  ·exact Fx h1 (t.rep s) (jm _ abZ)
  ·exact vC t r x.2 h2 (fun e he=>jm e (abq _ he)) p hp
end
theorem vD{st:St}{m:Nat}:∀(l:List (Nat×Nat×OK)) (x:JV (l.map (·.2.2))),og st m l=true→∃o,(m,some m,o)∈fe st l x
 |[],_,h=>by cases h
 |(s,id,ok)::r,x,h=>by
  simp only[og,Bool.or_eq_true,Bool.and_eq_true,beq_iff_eq]at h;rcases h with⟨rfl,h⟩|h
  ·split at h
   ·rename_i i hl;have hi:i=id:=by simpa using h
    subst hi;exact⟨_,by simp only[fe,hl,pf,List.head?_cons];exact abZ⟩
   ·cases h
  ·obtain⟨o,ho⟩:=vD r x.2 h;exact⟨o,abq _ ho⟩
theorem tL{st:St}{m:Nat}:∀(l:List (Nat×Nat×OK)) (x:JV (l.map (·.2.2))),nI st l=some x→og st m l=true→st.heap.get m≠none
 |[],_,_,h=>by cases h
 |(s,id,ok)::r,x,hx,h=>by
  obtain⟨h1,h2⟩:=rq hx;simp only[og,Bool.or_eq_true,Bool.and_eq_true,beq_iff_eq]at h;rcases h with⟨rfl,h⟩|h
  ·split at h
   ·rename_i i hl;have hi:i=id:=by simpa using h
    subst hi;rw[hl]at h1;simp only[dN]at h1
    split at h1
    ·rename_i hg;rw[hg];simp
    ·cases h1
   ·cases h
  ·exact tL r x.2 h2 h
theorem LY{kY:List AV}{hh:Heap}{b:Nat}(hb:qM Z ψ hh.get kY b):Z b∨Own ψ hh.get b:=hb.imp (fun h=>h) fun⟨i,_,h2,h3⟩=>⟨i,h2,h3⟩
theorem gq{sh:Shape}{st:St}{x:sh.T}{n:Nat}{a:Act}(hx:cz sh st=some x)(k:Ok Z0 w0 O ψ0 Z ψ st.heap.get w)(t:cK Z ψ st.heap.get w n (look st.tmps) a) :
  ∃Z' ψ',Ok Z0 w0 O ψ0 Z' ψ' (ar sh x).heap.get w∧cK Z' ψ' (ar sh x).heap.get w n (look (ar sh x).tmps) a:=by
 unfold cz at hx
 split at hx
 ·cases hx
 rename_i ids ti
 split at hx
 ·rename_i xv xb xr hv hb hr Dg
  cases hx
  simp only[Bool.and_eq_true]at Dg;obtain⟨HK,Be,afh,afi⟩:=Dg;obtain⟨hlen,Bg⟩:=ju _ _ _ hb;have Wb:(sh.boxes.map (·.2.1)).length=sh.bs.length:=by simp[Shape.bs]
  let L:List yr:=cv sh.bs st.heap ids (sh.boxes.map (·.2.1)) 9000 xb++fe st sh.rows xr
  have eH:dy L=(ar sh (xv,xb,xr)).heap:=by show dy (_++_)=_;rw[nh,jt _ _ _ _ _ _ hb Wb,vA];rfl
  have eN:L.map (·.1)=rY sh:=by show(_++_:List yr).map _=_;rw[List.map_append,g9 _ _ _ _ _ _ hb Wb,tJ];rfl
  have eS:L.filterMap (·.2.1)=GX st sh ids:=by show(_++_:List yr).filterMap _=_;rw[List.filterMap_append,ky _ _ _ _ _ _ hb Wb,yI];rfl
  have hn:b6 (L.map (·.1))=true:=by rw[eN];exact Be
  have jm:=zM (ψ:=ψ) hn;have hz:∀b,Z b→qM Z ψ st.heap.get (zz st sh ids) b:=fun b hb=>.inl hb;have Eg:=(su HK).2 st.heap;have g':Good (qM Z ψ st.heap.get (zz st sh ids)) (eJ ψ L) (dy L).get w w0.heap.size O:=by
   refine w7 k.da HK hn eS fun e he=>?_;rcases ab0.1 he with he|he
   ·exact ma k.da hz sh.bs ids _ 9000 xb hb (fun id b br h1 h2=>.inr ⟨id,abx _ br,h1,h2⟩) (fun s hs=>Eg s (abK _ hs)) (fun e he=>jm e (abK _ he)) e he
   ·exact Bw sh.rows xr hr (fun s hs=>Eg s (abx _ hs)) e he
  have Qe:∀p∈ids.zip (sh.boxes.map (·.2.1)),(dy L).get p.2≠none→eJ ψ L p.2=ψ p.1:=fun p hp aW=>by obtain⟨o,ho⟩:=kz sh.bs ids (sh.boxes.map (·.2.1)) 9000 xb (hh:=st.heap) hlen p hp;exact jm (p.2,some p.1,o) (abK _ ho) aW
  have zH:∀p∈ids.zip (sh.boxes.map (·.2.1)),st.heap.get p.1≠none:=fun p hp=>Bg _ (List.of_mem_zip hp).1;refine⟨qM Z ψ st.heap.get (zz st sh ids),eJ ψ L,?_,?_⟩
  ·rw[←eH];refine⟨g',fun b hb=>.inl (k.fN b hb),fun b hb=>?_,k.os,k.tape,k.output,k.size,k.block,fun i hi aW=>?_⟩
   ·rcases LY hb with h1|⟨id,h1,h2⟩
    ·exact k.eC b h1
    ·exact .inr (k.da.live id b h1 h2).2.symm
   ·obtain⟨o,ho⟩:=acf.1 aW;obtain⟨s,hm⟩:=ou ho;have gW:i∈rY sh:=by rw[←eN];exact acx.2 ⟨_,hm,rfl⟩
    have h1:=acH.1 afh i gW;simp only[Bool.or_eq_true,decide_eq_true_eq]at h1;rcases h1 with(h1|h1)|h1
    ·omega
    ·obtain⟨p,hp,he⟩:=List.any_eq_true.1 h1;simp only[Bool.and_eq_true,beq_iff_eq]at he;have h2:=Qe p hp (by rw[he.2];exact aW);rw[he.1,he.2]at h2;rw[h2];exact k.fix i hi (by have:=zH p hp;rwa [he.1]at this)
    ·obtain⟨o',nL⟩:=vD sh.rows xr h1;have h2:eJ ψ L i=ψ i:=jm (i,some i,o') (abx _ nL) aW;rw[h2];exact k.fix i hi (tL sh.rows xr hr h1)
  ·rw[←eH];refine eL (fun p hp=>?_) t.size t.defers;simp only[ar]at hp;rcases ab0.1 hp with hp|hp
   ·exact vB k.da t hz sh.zi xv hv (fun id b br h1 h2=>.inr ⟨id,abK _ br,h1,h2⟩) p hp
   ·rcases ab0.1 hp with hp|hp
    ·exact tK t sh.boxes ids ti Bg Qe p hp
    ·rcases ab0.1 hp with hp|hp
     ·exact yJ t zH Qe sh.fns afi p hp
     ·exact vC t sh.rows xr hr (fun e he=>jm e (abx _ he)) p hp
 ·cases hx
end Go.Vs
namespace Go.Vs
variable {P:Program} {Eqs:TypeId→Option K} {Sg:FuncId→Option aO} {F:(f:FuncId)→(g:aO)→g.A→Option g.B} {R:Type}
variable {Z Z' Z0:Nat→Prop} {ψ ψ' ψ0:Nat→Value} {h h':Hp} {w w' w0:World} {B0:Nat} {O N:Nat→Prop}
def Reach(P:Program)(b:Frame)(cs:List Frame)(ux:Act→World→Prop)(m:Machine):Prop:=∃a' w' todo,ux a' w'∧Steps P m (lone { b.at a' todo with mode:=.returning } cs w')
theorem Reach.head{b:Frame}{cs:List Frame}{ux:Act→World→Prop}{m m':Machine}(h:step P m=.next m')(r:Reach P b cs ux m'):Reach P b cs ux m:=by obtain⟨a,w,todo,h1,h2⟩:=r;exact⟨a,w,todo,h1,.head h h2⟩
theorem Reach.steps{b:Frame}{cs:List Frame}{ux:Act→World→Prop}{m m':Machine}(h:Steps P m m')(r:Reach P b cs ux m'):Reach P b cs ux m:=by obtain⟨a,w,todo,h1,h2⟩:=r;exact⟨a,w,todo,h1,h.trans h2⟩
mutual
theorem HL{p:Nat→Prop}(hp:∀i,p i):∀v:AV,aD p v
 |.ref id _ _ _=>by simp only[aD];exact hp id
 |.bC id=>by simp only[aD];exact hp id
 |.fn _ cap=>by simp only[aD];exact sD hp cap
 |.agg cs=>by simp only[aD];exact sD hp cs
 |.nF vs=>by simp only[aD];exact sD hp vs
 |.no=>by simp only[aD]
 |.bool _=>by simp only[aD]
 |.int _ _=>by simp only[aD]
 |.str _=>by simp only[aD]
 |.lq=>by simp only[aD]
 |.fm=>by simp only[aD]
 |.fp _ _ _=>by simp only[aD]
 |.sl _ _ _=>by simp only[aD]
 |.mp _ _ _=>by simp only[aD]
theorem sD{p:Nat→Prop}(hp:∀i,p i):∀l:List AV,av p l
 |[]=>by simp only[av]
 |v::r=>by simp only[av];exact⟨HL hp v,sD hp r⟩
end
theorem Uz(s:Nat){n:Nat}{a:Act}{st:St}(k:Ok Z0 w0 O ψ0 Z ψ st.heap.get w)(t:cK Z ψ st.heap.get w n (look st.tmps) a):∃Z',Ok Z0 w0 O ψ0 Z' ψ (PI s st).heap.get w∧cK Z' ψ (PI s st).heap.get w n (look (PI s st).tmps) a:=by
 unfold PI
 split
 ·rename_i m hl
  split
  ·rename_i ty kk xs hg;have g:=k.da;obtain⟨vs,QA,vj⟩:=g.row m (.row ty kk) xs hg;have hs:∀i o,(st.heap.del m).get i=some o→st.heap.get i=some o:=fun i o hi=>by rw[sd]at hi;by_cases e:i=m<;>simp_all [dO]
   have gg:=g.freeze (Z':=fun b=>Z b∨ob (ψ m)=some b) (h':=(st.heap.del m).get) hs (fun b hb=>.inl hb) (fun b hb=>hb.imp (fun h=>h) (fun hb=>⟨m,by rw[hg];simp,by rw[sd,aU],hb⟩));have n1:Next Z ψ st.heap.get w w0.heap.size O (fun _=>False) (fun b=>Z b∨ob (ψ m)=some b) ψ (st.heap.del m).get w:=⟨fun b hb=>.inl hb,fun b hb=>hb.imp (fun h=>h) (fun hb=>.inl ⟨m,by rw[hg];simp,hb⟩),cE.refl _ _ _,fun i hi=>by obtain⟨o,ho⟩:=acf.1 hi;exact .inl ⟨by rw[hs i o ho];simp,rfl⟩,gg⟩;refine⟨_,k.next (fun id h=>h.elim) n1,⟨fun d=>?_,t.size,t.defers⟩⟩;rw[sy _ rfl];have hr:=t.rep d;by_cases hv:look st.tmps d=.bC m
   ·rw[hv]at hr ⊢;simp only[au]at hr;have hu:=hr.2 (by rw[hg];simp);simp only[zh,if_true,au];exact⟨by rw[hu];exact u5 QA vj (fun b hb=>.inl hb) (fun b hb=>.inr hb),by simp⟩
   ·have hf:zh m (.sl false kk xs) (look st.tmps d)=look st.tmps d:=by
     unfold zh
     split
     ·split
      ·rename_i i hi e;subst e;exact absurd hi hv
      ·rename_i i hi e;exact hi.symm
     ·rfl
    rw[hf];exact n1.rep g (HL (fun _ h=>h) _) hr
  ·exact⟨Z,k,t⟩
 ·exact⟨Z,k,t⟩
theorem QB{n:Nat}{a:Act}(o:Option Shape){st:St}(k:Ok Z0 w0 O ψ0 Z ψ st.heap.get w)(t:cK Z ψ st.heap.get w n (look st.tmps) a):∃Z',Ok Z0 w0 O ψ0 Z' ψ (GY o st).heap.get w∧cK Z' ψ (GY o st).heap.get w n (look (GY o st).tmps) a:=by
 unfold GY
 split
 ·rename_i sh;generalize sh.rows=l
  induction l generalizing Z st with
  |nil=>exact⟨Z,k,t⟩
  |cons p r ih =>obtain⟨Z1,k1,t1⟩:=Uz p.1 k t;exact ih k1 t1
 ·exact⟨Z,k,t⟩
theorem rr(V:Env P Eqs Sg F)(hm:P.follows .mixedOrders=true){n:Nat}{ann:Nat→Option Shape}{J:(sh:Shape)→List Item→sh.T→Option R}{ret:St→Option R}{r:R}{b:Frame}{cs:List Frame}{ux:Act→World→Prop} (hJ:∀sh c k x Z ψ a w,J sh (.inLoop c::k) x=some r→Ok Z0 w0 O ψ0 Z ψ (ar sh x).heap.get w→cK Z ψ (ar sh x).heap.get w n (look (ar sh x).tmps) a→Reach P b cs ux (lone (b.at a (.code c::.inLoop c::k)) cs w)) (tj:∀st Z ψ a w,ret st=some r→Ok Z0 w0 O ψ0 Z ψ st.heap.get w→cK Z ψ st.heap.get w n (look st.tmps) a→ux a w) :
  ∀(fu:Nat) (items:List Item) (st:St) (Z:Nat→Prop) (ψ:Nat→Value) (a:Act) (w:World),ax P Eqs Sg F n ann J ret fu items st=some r→Ok Z0 w0 O ψ0 Z ψ st.heap.get w→cK Z ψ st.heap.get w n (look st.tmps) a → Reach P b cs ux (lone (b.at a items) cs w)
 |0,items,st,Z,ψ,a,w,hx,k,t=>by
  cases items<;>simp only[ax]at hx<;>cases hx
 |fu+1,[],st,Z,ψ,a,w,hx,k,t=>⟨a,w,[],tj st Z ψ a w (by simpa only[ax] using hx) k t,.one step_end⟩
 |fu+1,it::N1,st,Z,ψ,a,w,hx,k,t=>by
  have ih:=rr V hm (ann:=ann) hJ tj fu;have loop:∀c,(match ann (rZ c) with
    |none=>none
    |some sh=>match cz sh st with
     |some x=>J sh (.inLoop c::N1) x
     |none=>none)=some r→Reach P b cs ux (lone (b.at a (.code c::.inLoop c::N1)) cs w):=fun c hx=>by
   split at hx
   ·cases hx
   ·rename_i sh hsh
    split at hx
    ·rename_i x hxx;obtain⟨Z',ψ',k',t'⟩:=gq hxx k t;exact hJ sh c N1 x Z' ψ' a w hx k' t'
    ·cases hx
  cases it with
  |inBlock id=>exact .head step_inBlock (ih N1 st Z ψ a w (by simpa only[ax] using hx) k t)
  |inScope c=>exact .head step_inScope (ih N1 st Z ψ a w (by simpa only[ax] using hx) k t)
  |inLoop c=>exact .head step_inLoop (loop c (by simp only[ax]at hx;exact hx))
  |code c =>
   cases c with
   |skip=>exact .head step_skip (ih N1 st Z ψ a w (by simpa only[ax] using hx) k t)
   |label l=>exact .head step_label (ih N1 st Z ψ a w (by simpa only[ax] using hx) k t)
   |seq x y=>exact .head step_seq (ih _ st Z ψ a w (by simpa only[ax] using hx) k t)
   |cond c x y =>
    simp only[ax]at hx
    split at hx
    ·rename_i tt ht;have h1:=rm t c;rw[ht]at h1;simp only[au]at h1
     cases tt with
     |true=>exact .head (step_cond h1) (ih _ st Z ψ a w hx k t)
     |false=>exact .head (step_cond h1) (ih _ st Z ψ a w hx k t)
    ·cases hx
   |scope c=>exact .head step_scope (ih _ st Z ψ a w (by simpa only[ax] using hx) k t)
   |block id c=>exact .head step_block (ih _ st Z ψ a w (by simpa only[ax] using hx) k t)
   |loop c =>
    simp only[ax]at hx
    cases fu with
    |zero=>simp only[ax]at hx;cases hx
    |succ fu=>exact .head step_loop (loop c (by simp only[ax]at hx;exact hx))
   |exit id =>
    simp only[ax]at hx
    split at hx
    ·rename_i k' hk;exact .head (step_exit hk) (ih _ st Z ψ a w hx k t)
    ·cases hx
   |ret=>exact⟨a,w,_,tj st Z ψ a w (by simpa only[ax] using hx) k t,.one step_ret⟩
   |region id ops draw =>simp only[ax]at hx;obtain⟨Zf,k,t⟩:=QB (ann (500000+id)) k t;have hw:=FJ V hm (Q:=fun e a w=>e=.normal∧∃eu Z ψ,ax P Eqs Sg F n ann J ret fu N1 eu=some r∧Ok Z0 w0 O ψ0 Z ψ eu.heap.get w∧cK Z ψ eu.heap.get w n (look eu.tmps) a) hx k t (fun eu Z ψ a w h1 h2 h3=>⟨rfl,eu,Z,ψ,h1,h2,h3⟩);obtain⟨e,a',w',⟨rfl,eu,Z',ψ',h1,h2,h3⟩,Qd⟩:=hw b N1 cs;exact .steps Qd (ih N1 eu Z' ψ' a' w' h1 h2 h3)
   |_=>simp only[ax]at hx;cases hx
  |_=>simp only[ax]at hx;cases hx
theorem ru{hh:Heap}{n:Nat}{s:List (Nat×AV)}{a:Act}(g:Good Z ψ hh.get w B0 O)(t:cK Z ψ hh.get w n (look s) a):∀(l:List ResultVar) (acc:Array Value) (vs:List AV),yg P hh s l=some vs → ∃us,(l.foldlM (fun(bs:Array Value) r=>do let y ←(match r with | .tmp t=>pure (a.tmps.getD t undef) | .cell p ty=>do loadVar ty (←asAddr (a.tmps.getD p undef)):Sem Value);pure (bs.push y)) acc:Sem (Array Value)).run P w=.ok (acc++us.toArray) w∧an Z ψ hh.get w vs us
 |[],acc,vs,hx=>by
  simp only[yg]at hx
  cases hx
  exact⟨[],by simp,by simp only[an]⟩
 |.tmp d::l,acc,vs,hx=>by
  simp only[yg]at hx
  split at hx
  ·rename_i hM h1
   cases hx
   obtain⟨us,h2,h3⟩:=ru g t l (acc.push (a.tmps.getD d undef)) hM h1;refine⟨a.tmps.getD d undef::us,?_,by simp only[an];exact⟨_,_,rfl,t.rep d,h3⟩⟩;simp only[List.foldlM_cons,Sem.run_bind,Sem.run_pure,Result.andThen_ok];rw[h2];simp
  ·cases hx
 |.cell d ty::l,acc,vs,hx=>by
  simp only[yg]at hx
  split at hx
  ·rename_i id sz off hd
   split at hx
   ·rename_i bt cs hg
    split at hx
    ·rename_i v hM hv h1
     cases hx
     have h4:=t.rep d;rw[hd]at h4;simp only[au]at h4;obtain⟨ad,h5,h6⟩:=h4;obtain⟨gg,ws,e1,e2,e3,e4⟩:=g.box id bt cs hg;have h7:=h6 (by rw[hg];simp);rw[e1]at h7;simp only[TX,Nat.zero_mul,Nat.zero_add]at h7;subst h7;obtain⟨V,h8,h9⟩:=jT (a:=⟨gg,off,none⟩) (e3.drop off) (fun j u hu=>by rw[cw];simp only[World.cell?,e2];rw[List.getElem?_drop]at hu;simpa using hu) hv;have lY:(loadVar ty ⟨gg,off,none⟩).run P w=.ok V w:=by have:=h8;simpa[Instr.loadAt,Instr.sureAddr] using this
     obtain⟨us,h2,h3⟩:=ru g t l (acc.push V) hM h1;refine⟨V::us,?_,by simp only[an];exact⟨_,_,rfl,h9,h3⟩⟩;have zj:(asAddr (a.tmps.getD d undef)).run P w=.ok ⟨gg,off,none⟩ w:=by rw[h5];rfl
     simp only[List.foldlM_cons,Sem.run_bind,zj,Sem.run_pure,Result.andThen_ok,lY];rw[h2];simp
    ·cases hx
   ·cases hx
  ·cases hx
theorem HM{fn:Func}{hh:Heap}{n:Nat}{s:List (Nat×AV)}{a:Act}{vs:List AV}(g:Good Z ψ hh.get w B0 O)(t:cK Z ψ hh.get w n (look s) a)(hx:yg P hh s fn.results.toList=some vs) :
  ∃us v,(results fn a.tmps).run P w=.ok v w∧an Z ψ hh.get w vs us∧v=(if us.length=1 then us.headD undef else .tuple us.toArray):=by
 obtain⟨us,h1,h2⟩:=ru (P:=P) g t fn.results.toList #[] vs hx;refine⟨us,_,?_,h2,rfl⟩;have h3:(fn.results.mapM fun r=>(match r with | .tmp t=>pure (a.tmps.getD t undef) | .cell p ty=>do loadVar ty (←asAddr (a.tmps.getD p undef)):Sem Value)).run P w=.ok us.toArray w:=by rw[Array.mapM_eq_foldlM,←Array.foldlM_toList];simpa using h1
 have h4:results fn a.tmps=(do
   let vs ←fn.results.mapM fun r=>(match r with | .tmp t=>pure (a.tmps.getD t undef) | .cell p ty=>do loadVar ty (←asAddr (a.tmps.getD p undef)):Sem Value)
   pure (if h:vs.size=1 then vs[0] else .tuple vs)):=rfl
 rw[h4,Sem.run_bind,h3,Result.andThen_ok,Sem.run_pure];congr 1;by_cases h5:us.length=1
 ·obtain⟨u,rfl⟩:=List.length_eq_one_iff.1 h5;simp
 ·rw[dif_neg (by simpa using h5),if_neg h5]
theorem gr:∀(ps:List PK) (ids:List Nat) (s:Nat) (x:GR (k0 ps)) (us:List Value),an Z ψ h w ((aN ps ids s x).map (·.2)) us→us.length=ps.length∧∀p∈aN ps ids s x,∃j u,p.1=s+j∧us[j]? = some u∧au Z ψ h w p.2 u
 |[],ids,s,x,us,hr=>by simp only[aN,List.map_nil,an]at hr;subst hr;exact⟨rfl,fun p hp=>by simp[aN]at hp⟩
 |.val k::ps,ids,s,x,us,hr=>by
  simp only[aN,List.map_cons,an]at hr;obtain⟨u,iI,rfl,h1,h2⟩:=hr;obtain⟨h3,h4⟩:=gr ps ids (s+1) x.2 iI h2;refine⟨by simp[h3],fun p hp=>?_⟩;simp only[aN]at hp;rcases abw.1 hp with rfl|hp
  ·exact⟨0,u,rfl,rfl,h1⟩
  ·obtain⟨j,u',h5,h6,h7⟩:=h4 p hp;exact⟨j+1,u',by omega,by simpa using h6,h7⟩
 |.ref::ps,i::ids,s,x,us,hr=>by
  simp only[aN,List.map_cons,an]at hr;obtain⟨u,iI,rfl,h1,h2⟩:=hr;obtain⟨h3,h4⟩:=gr ps ids (s+1) x iI h2;refine⟨by simp[h3],fun p hp=>?_⟩;simp only[aN]at hp;rcases abw.1 hp with rfl|hp
  ·exact⟨0,u,rfl,rfl,h1⟩
  ·obtain⟨j,u',h5,h6,h7⟩:=h4 p hp;exact⟨j+1,u',by omega,by simpa using h6,h7⟩
 |.ref::ps,[],s,x,us,hr=>by
  simp only[aN,List.map_cons,an]at hr;obtain⟨u,iI,rfl,h1,h2⟩:=hr;obtain⟨h3,h4⟩:=gr ps [] (s+1) x iI h2;refine⟨by simp[h3],fun p hp=>?_⟩;simp only[aN]at hp;rcases abw.1 hp with rfl|hp
  ·exact⟨0,u,rfl,rfl,h1⟩
  ·obtain⟨j,u',h5,h6,h7⟩:=h4 p hp;exact⟨j+1,u',by omega,by simpa using h6,h7⟩
 |.own::ps,i::ids,s,x,us,hr=>by
  simp only[aN,List.map_cons,an]at hr;obtain⟨u,iI,rfl,h1,h2⟩:=hr;obtain⟨h3,h4⟩:=gr ps ids (s+1) x iI h2;refine⟨by simp[h3],fun p hp=>?_⟩;simp only[aN]at hp;rcases abw.1 hp with rfl|hp
  ·exact⟨0,u,rfl,rfl,h1⟩
  ·obtain⟨j,u',h5,h6,h7⟩:=h4 p hp;exact⟨j+1,u',by omega,by simpa using h6,h7⟩
 |.own::ps,[],s,x,us,hr=>by
  simp only[aN,List.map_cons,an]at hr;obtain⟨u,iI,rfl,h1,h2⟩:=hr;obtain⟨h3,h4⟩:=gr ps [] (s+1) x iI h2;refine⟨by simp[h3],fun p hp=>?_⟩;simp only[aN]at hp;rcases abw.1 hp with rfl|hp
  ·exact⟨0,u,rfl,rfl,h1⟩
  ·obtain⟨j,u',h5,h6,h7⟩:=h4 p hp;exact⟨j+1,u',by omega,by simpa using h6,h7⟩
 |.tg f m::ps,ids,s,x,us,hr=>by
  simp only[aN,List.map_cons,an]at hr;obtain⟨u,iI,rfl,h1,h2⟩:=hr;obtain⟨h3,h4⟩:=gr ps (ids.drop m) (s+1) x iI h2;refine⟨by simp[h3],fun p hp=>?_⟩;simp only[aN]at hp;rcases abw.1 hp with rfl|hp
  ·exact⟨0,u,rfl,rfl,h1⟩
  ·obtain⟨j,u',h5,h6,h7⟩:=h4 p hp;exact⟨j+1,u',by omega,by simpa using h6,h7⟩
 |.agg m::ps,ids,s,x,us,hr=>by
  simp only[aN,List.map_cons,an]at hr;obtain⟨u,iI,rfl,h1,h2⟩:=hr;obtain⟨h3,h4⟩:=gr ps (ids.drop m) (s+1) x iI h2;refine⟨by simp[h3],fun p hp=>?_⟩;simp only[aN]at hp;rcases abw.1 hp with rfl|hp
  ·exact⟨0,u,rfl,rfl,h1⟩
  ·obtain⟨j,u',h5,h6,h7⟩:=h4 p hp;exact⟨j+1,u',by omega,by simpa using h6,h7⟩
section
variable {An:FuncId→Nat→Option Shape}
theorem Bx(V:Env P Eqs Sg F)(hm:P.follows .mixedOrders=true){f:FuncId}{g:aO}{fn:Func}{y:g.B}{b:Frame}{cs:List Frame}{ux:Act→World→Prop} (tj:∀st Z ψ a w,q9 P g fn st=some y→Ok Z0 w0 O ψ0 Z ψ st.heap.get w→cK Z ψ st.heap.get w fn.ntmps (look st.tmps) a→ux a w) :
  ∀(n:Nat) (sh:Shape) (c:Code) (k:List Item) (x:sh.T) (Z:Nat→Prop) (ψ:Nat→Value) (a:Act) (w:World),mQ P Eqs Sg An F f g fn n sh (.inLoop c::k) x=some y → Ok Z0 w0 O ψ0 Z ψ (ar sh x).heap.get w→cK Z ψ (ar sh x).heap.get w fn.ntmps (look (ar sh x).tmps) a→Reach P b cs ux (lone (b.at a (.code c::.inLoop c::k)) cs w)
 |0,sh,c,k,x,Z,ψ,a,w,hx,_,_=>by simp only[mQ]at hx;cases hx
 |n+1,sh,c,k,x,Z,ψ,a,w,hx,ko,t=>by simp only[mQ]at hx;exact rr V hm (fun sh c k x Z ψ a w h1 h2 h3=>Bx V hm tj n sh c k x Z ψ a w h1 h2 h3) tj fuel _ _ Z ψ a w hx ko t
theorem FK{n i:Nat}(h:i∈aJ n):∃j,j<n∧i=1000+20*j:=by unfold aJ at h;obtain⟨j,h1,rfl⟩:=acx.1 h;exact⟨j,adJ.1 h1,rfl⟩
theorem QC{α:Type}{l:List α}{a:α}(h:a∈l):(a,a)∈l.zip l:=by
 induction l with
 |nil=>cases h
 |cons b r ih =>
  simp only[List.zip_cons_cons];rcases abw.1 h with rfl|h
  ·exact abZ
  ·exact abq _ (ih h)
theorem Kt(V:Env P Eqs Sg F)(hm:P.follows .mixedOrders=true){f:FuncId}{g:aO}{n:Nat}{x:g.A}{y:g.B}(hx:JW P Eqs Sg An F f g n x=some y):Ef P f g x y:=by
 intro Z ψ0 w kA hg hr;unfold JW at hx
 split at hx
 ·cases hx
 rename_i fn c Wc;have hf:P.funcs[f%1000]? = some fn∧fn.body=some c:=by
  unfold body at Wc;obtain⟨fn',h1,h2⟩:=ac6.1 Wc;obtain⟨c',h3,h4⟩:=ac7.1 h2
  cases h4
  exact⟨h1,h3⟩
 split at hx
 ·rename_i hle;simp only[Bool.and_eq_true,decide_eq_true_eq]at hle;obtain⟨hlen,XO⟩:=gr g.ps (aJ g.bs.length) 0 x.1 kA hr;intro cs
  let b:Frame:={ (default:Frame) with fn:=f%1000,kind:=.normal }
  let a0:Act:={ tmps:=kA.toArray++Array.replicate (fn.ntmps-kA.toArray.size) undef,defers:=[] }
  have XP:Frame.enter P (f%1000) kA.toArray .normal=b.at a0 [.code c]:=by simp[Frame.enter,Frame.at,hf.1,hf.2,b,a0]
  have ok0:Ok Z w (Own ψ0 (pR g x)) ψ0 Z ψ0 (entry g x).heap.get w :=⟨hg,fun _ h=>h,fun _ h=>.inl h,rfl,rfl,rfl,acn _,fun _ _ _=>rfl,fun _ _ _=>rfl⟩;have tr0:cK Z ψ0 (entry g x).heap.get w fn.ntmps (look (entry g x).tmps) a0:=by
   refine eL (fun p hp=>?_) (by simp[a0];omega) rfl;obtain⟨j,u,h1,h2,h3⟩:=XO p hp;rw[h1];have hj:j<kA.length:=(abr.1 h2).1;have:a0.tmps.getD (0+j) undef=u:=by rw[Nat.zero_add,Array.getD_eq_getD_getElem?];simp only[a0];rw[Array.getElem?_append_left (by simpa using hj)];simp[h2]
   rw[this];exact h3
  have tj:∀st Z1 nW a w1,q9 P g fn st=some y→Ok Z w (Own ψ0 (pR g x)) ψ0 Z1 nW st.heap.get w1→cK Z1 nW st.heap.get w1 fn.ntmps (look st.tmps) a → a.defers=[]∧∃v,(results fn a.tmps).run P w1=.ok v w1∧∃v' Z' ψ',Ending.returned v=.returned v'∧(∀b,Z b→Z' b)∧(∀b,Z' b→Z b∨Own ψ0 (pR g x) b∨w.heap.size≤b)∧cE ψ0 (pR g x) w w1 ∧ Good Z' ψ' (jY g y).get w1 w.heap.size (Own ψ0 (pR g x))∧(∀i∈aJ g.bs.length,ψ' i=ψ0 i)∧au Z' ψ' (jY g y).get w1 (eU (aP g.rs (aJ g.bs.length) 2000 3000 y.1)) v':=by
   intro st Z1 nW a w1 tj k t;refine⟨t.defers,?_⟩;unfold q9 at tj
   split at tj
   ·cases tj
   rename_i vs qN
   split at tj
   ·rename_i y1 y2 hd hb Dg
    cases tj
    simp only[Bool.and_eq_true]at Dg;obtain⟨HK,Be⟩:=Dg;obtain⟨us,v,h1,h2,h3⟩:=HM (P:=P) k.da t qN;have Wb:(aJ g.bs.length).length=g.bs.length:=by simp[aJ]
    let L:List yr:=cv g.bs st.heap (aJ g.bs.length) (aJ g.bs.length) 2000 y2++cx g.rs vs 3000 y1
    have eH:dy L=jY g (y1,y2):=by show dy (_++_)=_;rw[nh,jt _ _ _ _ _ _ hb Wb,gF];rfl
    have eN:L.map (·.1)=qS g:=by show(_++_:List yr).map _=_;rw[List.map_append,g9 _ _ _ _ _ _ hb Wb,fG];rfl
    have eS:L.filterMap (·.2.1)=cT g.bs st.heap (aJ g.bs.length)++dH g.rs vs:=by show(_++_:List yr).filterMap _=_;rw[List.filterMap_append,ky _ _ _ _ _ _ hb Wb,iV _ _ _ _ hd]
    have hn:b6 (L.map (·.1))=true:=by rw[eN];exact Be
    have jm:=zM (ψ:=nW) hn;have hz:∀b,Z1 b→qM Z1 nW st.heap.get (fY g.rs vs++fX g.bs st.heap (aJ g.bs.length)) b:=fun b hb=>.inl hb;have Eg:=(su HK).2 st.heap;have g':Good (qM Z1 nW st.heap.get (fY g.rs vs++fX g.bs st.heap (aJ g.bs.length))) (eJ nW L) (dy L).get w1 w.heap.size (Own ψ0 (pR g x)):=by
     refine w7 k.da HK hn eS fun e he=>?_;rcases ab0.1 he with he|he
     ·exact ma k.da hz g.bs _ _ 2000 y2 hb (fun id b br h1 h2=>.inr ⟨id,abx _ br,h1,h2⟩) (fun s hs=>Eg s (abK _ hs)) (fun e he=>jm e (abK _ he)) e he
     ·exact jX g.rs vs 3000 y1 hd (fun s hs=>Eg s (abx _ hs)) e he
    obtain⟨Er,Bg⟩:=ju _ _ _ hb;have N2:=sx (ids2:=aJ g.bs.length) (Z':=qM Z1 nW st.heap.get (fY g.rs vs++fX g.bs st.heap (aJ g.bs.length))) (ψ':=eJ nW L) (h':=(dy L).get) k.da hz hb Wb (fun e he=>jm e (abK _ he)) g.rs vs 3000 y1 us hd (fun id b br h1 h2=>.inr ⟨id,abK _ br,h1,h2⟩) (fun e he=>jm e (abx _ he)) h2;refine⟨v,h1,v,qM Z1 nW st.heap.get (fY g.rs vs++fX g.bs st.heap (aJ g.bs.length)),eJ nW L,rfl,fun b hb=>.inl (k.fN b hb),fun b hb=>?_,⟨k.os,k.tape,k.output,k.size,k.block⟩,by rw[←eH];exact g',fun i hi=>?_,?_⟩
    ·rcases LY hb with h4|⟨id,h4,h5⟩
     ·exact k.eC b h4
     ·exact .inr (k.da.live id b h4 h5).2.symm
    ·obtain⟨o,ho⟩:=kz (hh:=st.heap) g.bs (aJ g.bs.length) (aJ g.bs.length) 2000 y2 Er (i,i) (QC hi);rw[iU hn (List.mem_append_left _ ho)];obtain⟨j,h4,h5⟩:=FK hi;exact k.fix i (by omega) (Bg i hi)
    ·rw[←eH];have PO:us.length=(aP g.rs (aJ g.bs.length) 2000 3000 y1).length:=N2.length.symm;rw[h3]
     match hE:aP g.rs (aJ g.bs.length) 2000 3000 y1,us,N2,PO with
     |[],[],N2,_=>simp only[eU];simp only[au];exact⟨#[],rfl,by simpa using N2⟩
     |[e1],[u],N2,_ =>
      simp only[an]at N2;obtain⟨u',iI,he,h4,_⟩:=N2
      cases he
      simpa[eU] using h4
     |e1::e2::er,u1::u2::ur,N2,_ =>simp only[eU,au];exact⟨(u1::u2::ur).toArray,by simp,by simpa using N2⟩
   ·cases tj
  have reach:=rr V hm (b:=b) (cs:=cs) (fun sh c k x Z ψ a w h1 h2 h3=>Bx V hm tj n sh c k x Z ψ a w h1 h2 h3) tj fuel _ _ Z ψ0 a0 w hx ok0 tr0;obtain⟨a',w',todo,⟨hd,v,zp,hR⟩,hs⟩:=reach;rw[←XP]at hs;exact⟨.returned v,w',_,hR,hs,rfl,rfl,hd,rfl,fn,hf.1,zp⟩
 ·cases hx
end
theorem HN(hX:∀f g u,Sg f=some g→g.x=some u→gV P (f%1000) u){G:(f:FuncId)→(g:aO)→Option (g.A→Option g.B)}{An:FuncId→Nat→Option Shape}(C2:∀t k,Eqs t=some k→l6 P t k)(NK:∀f g,Sg f=some g→jv P (f%1000))(hm:P.follows .mixedOrders=true) (hG:∀f g u x y,Sg f=some g→G f g=some u→u x=some y→Ef P f g x y):∀(m:Nat) f g x y,Sg f=some g→Fn P Eqs Sg An G m f g x=some y→Ef P f g x y
 |0,f,g,x,y,hs,hx=>by
  simp only[Fn]at hx
  split at hx
  ·rename_i u hu;exact hG f g u x y hs hu hx
  ·cases hx
 |m+1,f,g,x,y,hs,hx=>by
  simp only[Fn]at hx
  split at hx
  ·rename_i u hu;exact hG f g u x y hs hu hx
  ·exact Kt ⟨C2,fun f g x y h1 h2=>HN hX C2 NK hm hG m f g x y h1 h2,hX,NK⟩ hm hx
end Go.Vs
namespace Go.Vs
abbrev FT:=(f:FuncId)→(g:aO)→g.A→Option g.B
variable {P:Program} {Eqs:TypeId→Option K} {Sg:FuncId→Option aO} {R:Type}
def uO(p:Nat→Prop):Prop:=∃m,∀m',m≤m'→p m'
theorem uO.now{p:Nat→Prop}(h:∀m,p m):uO p:=⟨0,fun m _=>h m⟩
theorem uO.and{p q r:Nat→Prop}(h:uO p)(k:uO q)(hr:∀m,p m→q m→r m):uO r:=by obtain⟨a,ha⟩:=h;obtain⟨b,hb⟩:=k;exact⟨max a b,fun m hm=>hr m (ha m (by omega)) (hb m (by omega))⟩
theorem uO.imp{p r:Nat→Prop}(h:uO p)(hr:∀m,p m→r m):uO r:=by obtain⟨a,ha⟩:=h;exact⟨a,fun m hm=>hr m (ha m hm)⟩
def To(A:Nat→FT)(L:FT):Prop:=∀f g x y,L f g x=some y→uO fun m=>A m f g x=some y
def ToK{α:Type}(A:Nat→α→Option R)(L:α→Option R):Prop:=∀x y,L x=some y→uO fun m=>A m x=some y
def ToJ(A:Nat→(sh:Shape)→List Item→sh.T→Option R)(L:(sh:Shape)→List Item→sh.T→Option R):Prop:=∀sh k x y,L sh k x=some y→uO fun m=>A m sh k x=some y
theorem QD(h:Heap)(id:Nat)(f:FuncId)(vs:List AV):(∀F F':FT,jq Sg F h id f vs some=jq Sg F' h id f vs some) ∨ ∃ff g x,(∀F F':FT,F ff g x=F' ff g x→jq Sg F h id f vs some=jq Sg F' h id f vs some)∧∀F:FT,F ff g x=none→jq Sg F h id f vs some=none:=by
 unfold jq
 split
 ·exact .inl fun _ _=>rfl
 rename_i g hg
 split
 ·exact .inl fun _ _=>rfl
 split
 ·split
  ·split
   ·rename_i x b hx hb hp;refine .inr ⟨_,g,(x,b),fun F F' e=>by rw[e],fun F e=>by rw[e];rfl⟩
   ·exact .inl fun _ _=>rfl
  ·split
   ·rename_i x b hx hb hp;refine .inr ⟨_,g,(x,b),fun F F' e=>by rw[e],fun F e=>by rw[e];rfl⟩
   ·exact .inl fun _ _=>rfl
 ·exact .inl fun _ _=>rfl
theorem UA{A:Nat→FT}{L:FT}(hA:To A L){h:Heap}{id:Nat}{f:FuncId}{vs:List AV}{e:bq}(he:jq Sg L h id f vs some=some e):uO fun m=>jq Sg (A m) h id f vs some=some e:=by
 rcases QD (Sg:=Sg) h id f vs with k|⟨ff,g,x,k1,k2⟩
 ·exact .now fun m=>(k _ _).trans he
 ·cases hy:L ff g x with
  |none=>rw[k2 L hy]at he;cases he
  |some y=>exact(hA _ _ _ _ hy).imp fun m hm=>(k1 (A m) L (hm.trans hy.symm)).trans he
theorem HO{A:Nat→FT}{L:FT}(hA:To A L){id:Nat}{h:Heap}{s:List (Nat×AV)}{o:Oper}{e:bq}(he:cI P Eqs Sg L id h s o some=some e):uO fun m=>cI P Eqs Sg (A m) id h s o some=some e:=by
 obtain⟨dst,op,type,pos,after,guard⟩:=o
 cases op with
 |call c =>
  obtain⟨callee,args,argTypes⟩:=c
  cases callee with
  |value f =>
   simp only[cI]at he
   split at he
   ·rename_i f' cap hf;refine(UA hA he).imp fun m hm=>?_;simp only[cI,hf];exact hm
   ·cases he
  |builtin bi=>cases bi<;>exact .now fun m=>he
  |invoke _ _=>exact .now fun m=>he
 |unOp u _ _=>cases u<;>exact .now fun m=>he
 |makeFunc fn _ _=>cases fn<;>exact .now fun m=>he
 |makeMap _ r=>cases r<;>exact .now fun m=>he
 |next _ b=>cases b<;>exact .now fun m=>he
 |_=>exact .now fun m=>he
theorem uO.all{p:Nat→Nat→Prop}:∀(n:Nat),(∀j,j<n→uO (p j))→uO fun m=>∀j,j<n→p j m
 |0,_=>.now fun m j hj=>absurd hj (Nat.not_lt_zero _)
 |n+1,h=>(uO.all n fun j hj=>h j (by omega)).and (h n (by omega)) fun m h1 h2 j hj=>by
  by_cases e:j=n
  ·subst e;exact h2
  ·exact h1 j (by omega)
theorem Ku{h:Heap}{x:AV}{K:Nat→AV→Heap→Option R}{KL:AV→Heap→Option R}(hK:∀v h y,KL v h=some y→uO fun m=>K m v h=some y){r:R}(he:lr h x KL=some r):uO fun m=>lr h x (K m)=some r:=by
 unfold lr at he ⊢
 split at he
 ·rename_i id
  split at he
  ·rename_i kk vk p hg
   try simp only[hg]
   cases hp:p.2 with
   |nil =>simp only[hp,List.isEmpty_nil,cond_true]at he ⊢;exact hK _ _ _ he
   |cons c l =>simp only[hp,List.isEmpty_cons,cond_false]at he ⊢;have h1:=oC he;refine(uO.all _ fun j hj=>?_).imp fun m hm=>np (by simp) hm;have h2:=h1 j hj;rw[List.getElem?_eq_getElem hj]at h2 ⊢;simp only[Option.bind_some]at h2 ⊢;exact hK _ _ _ h2
  ·cases he
 ·cases he
theorem QE{h:Heap}{x:AV}{want:Bool}{K:Nat→AV→Option R}{KL:AV→Option R}(hK:∀v y,KL v=some y→uO fun m=>K m v=some y){r:R}(he:uX h x want KL=some r):uO fun m=>uX h x want (K m)=some r:=by
 unfold uX at he ⊢
 split at he
 ·exact hK _ _ he
 ·rename_i xs hv
  cases yl:xs.isEmpty with
  |true =>simp only[yl,cond_true]at he ⊢;have h1:=oC he;exact(uO.all _ fun j hj=>hK _ _ (h1 j hj)).imp fun m hm=>np (by decide) hm
  |false =>simp only[yl,cond_false]at he ⊢;exact hK _ _ he
 ·cases he
theorem By{A:Nat→FT}{L:FT}(hA:To A L){rid:Nat}{draw:Bool}{ops:Array Oper}{b:Array Nat}{K:Nat→St→Option R}{KL:St→Option R}(hK:ToK K KL) :
  ∀(l:List (Nat×Oper)) (st:St) (r:R),bw P Eqs Sg L rid draw ops b l st KL=some r→uO fun m=>bw P Eqs Sg (A m) rid draw ops b l st (K m)=some r
 |[],st,r,he=>hK st r (by simpa only[bw] using he)
 |(i,o)::l,st,r,he=>by
  have ih:=By hA (rid:=rid) (draw:=draw) (ops:=ops) (b:=b) hK l;have run:∀st:St,(match (if draw then none else pn P (opId rid i) st o) with
    |some eu=>bw P Eqs Sg L rid draw ops b l eu KL
    |none=>match (if draw then none else uW o) with
    |some x=>lr st.heap (ρ st.tmps x) fun v h=>bw P Eqs Sg L rid draw ops b l (({ st with heap:=h }:St).put o.dst v) KL
    |none=>match (if draw then none else isNil P o) with
    |some (x,want)=>uX st.heap (ρ st.tmps x) want fun v=>bw P Eqs Sg L rid draw ops b l (st.put o.dst v) KL
    |none=>if draw then cI P Eqs Sg L (opId rid i) (g6 (ahead rid (b.getD i 0) st.heap) (gR ops b i st.tmps o)) st.tmps o fun e =>
     if(gP true rid ops b i (b.getD i 0) (gS (gR ops b i st.tmps o) (ahead rid (b.getD i 0) st.heap) e)&&lV (gR ops b i st.tmps o) e)=true then
      bw P Eqs Sg L rid draw ops b l ({ st with heap:=match gS (gR ops b i st.tmps o) (ahead rid (b.getD i 0) st.heap) e with | .wr _ h=>h|e=>e.h st.heap }.put o.dst e.v) KL else none
     else cI P Eqs Sg L (opId rid i) st.heap st.tmps o fun e =>
     if gP false rid ops b i (2 ^ i-1) e then bw P Eqs Sg L rid draw ops b l ({ st with heap:=match e with | .wr _ h=>h|e=>e.h st.heap }.put o.dst e.v) KL else none)=some r →
    uO fun m=>(match (if draw then none else pn P (opId rid i) st o) with
    |some eu=>bw P Eqs Sg (A m) rid draw ops b l eu (K m)
    |none=>match (if draw then none else uW o) with
    |some x=>lr st.heap (ρ st.tmps x) fun v h=>bw P Eqs Sg (A m) rid draw ops b l (({ st with heap:=h }:St).put o.dst v) (K m)
    |none=>match (if draw then none else isNil P o) with
    |some (x,want)=>uX st.heap (ρ st.tmps x) want fun v=>bw P Eqs Sg (A m) rid draw ops b l (st.put o.dst v) (K m)
    |none=>if draw then cI P Eqs Sg (A m) (opId rid i) (g6 (ahead rid (b.getD i 0) st.heap) (gR ops b i st.tmps o)) st.tmps o fun e =>
     if(gP true rid ops b i (b.getD i 0) (gS (gR ops b i st.tmps o) (ahead rid (b.getD i 0) st.heap) e)&&lV (gR ops b i st.tmps o) e)=true then
      bw P Eqs Sg (A m) rid draw ops b l ({ st with heap:=match gS (gR ops b i st.tmps o) (ahead rid (b.getD i 0) st.heap) e with | .wr _ h=>h|e=>e.h st.heap }.put o.dst e.v) (K m) else none
     else cI P Eqs Sg (A m) (opId rid i) st.heap st.tmps o fun e =>
     if gP false rid ops b i (2 ^ i-1) e then bw P Eqs Sg (A m) rid draw ops b l ({ st with heap:=match e with | .wr _ h=>h|e=>e.h st.heap }.put o.dst e.v) (K m) else none)=some r:=by
   intro st h
   split at h
   ·rename_i eu oz
    try simp only[oz]
    exact ih _ r h
   rename_i oz
   split at h
   ·rename_i x El
    try simp only[oz,El]
    exact Ku (fun v h y hy=>ih _ y hy) h
   rename_i El
   split at h
   ·rename_i x want hnl
    try simp only[oz,El,hnl]
    exact QE (fun v y hy=>ih _ y hy) h
   rename_i hnl
   try simp only[oz,El,hnl]
   cases draw with
   |true =>
    simp only[if_true]at h ⊢;rw[lH]at h;obtain⟨e,h1,h2⟩:=ac6.1 h;by_cases hc:(gP true rid ops b i (b.getD i 0) (gS (gR ops b i st.tmps o) (ahead rid (b.getD i 0) st.heap) e)&&lV (gR ops b i st.tmps o) e)=true
    ·rw[if_pos hc]at h2;refine(HO hA h1).and (ih _ r h2) fun m h3 h4=>?_;rw[lH,h3,Option.bind_some,if_pos hc];exact h4
    ·rw[if_neg hc]at h2;cases h2
   |false =>
    simp only[Bool.false_eq_true,if_false]at h ⊢;rw[lH]at h;obtain⟨e,h1,h2⟩:=ac6.1 h;by_cases hc:gP false rid ops b i (2 ^ i-1) e=true
    ·rw[if_pos hc]at h2;refine(HO hA h1).and (ih _ r h2) fun m h3 h4=>?_;rw[lH,h3,Option.bind_some,if_pos hc];exact h4
    ·rw[if_neg hc]at h2;cases h2
  simp only[bw]at he ⊢
  split at he
  ·rename_i hg
   try simp only[hg]
   exact run _ he
  ·rename_i j want hg
   try simp only[hg]
   split at he
   ·cases he
   ·rename_i d hd
    try simp only[hd]
    split at he
    ·rename_i t ht
     try simp only[ht]
     cases t<;>cases want<;>simp only[cond_true,cond_false,if_true,if_false,Bool.false_eq_true]at he ⊢<;>first|exact run _ he|exact ih _ r he
    ·rename_i ht
     try simp only[ht]
     exact ih _ r he
    ·cases he
theorem Dn{A:Nat→FT}{L:FT}(hA:To A L){n rid:Nat}{ops:Array Oper}{draw:Bool}{K:Nat→St→Option R}{KL:St→Option R}(hK:ToK K KL){st:St}{r:R} (he:iH P Eqs Sg L n rid ops draw st KL=some r):uO fun m=>iH P Eqs Sg (A m) n rid ops draw st (K m)=some r:=by
 unfold iH at he ⊢;by_cases hc:((ops.all fun o=>iG n o)&&(!draw || (uV ops (if draw then Region.before ops else #[])&&(Az ops (if draw then Region.before ops else #[])&&b6 (ops.toList.filterMap (·.dst)))))&&decide (ops.size≤128))=true
 ·dsimp only at he ⊢
  rw[if_pos hc]at he;refine(By hA hK _ _ r he).imp fun m hm=>?_;rw[if_pos hc];exact hm
 ·dsimp only at he
  rw[if_neg hc]at he;cases he
theorem gH{A:Nat→FT}{L:FT}(hA:To A L){n:Nat}{ann:Nat→Option Shape}{J:Nat→(sh:Shape)→List Item→sh.T→Option R}{JL:(sh:Shape)→List Item→sh.T→Option R}(hJ:ToJ J JL){ret:St→Option R} :
  ∀(fu:Nat) (items:List Item) (st:St) (r:R),ax P Eqs Sg L n ann JL ret fu items st=some r→uO fun m=>ax P Eqs Sg (A m) n ann (J m) ret fu items st=some r
 |0,items,st,r,he=>by cases items<;>simp only[ax]at he<;>cases he
 |fu+1,[],st,r,he=>.now fun m=>by simpa only[ax] using he
 |fu+1,it::N1,st,r,he=>by
  have ih:=gH hA (n:=n) (ann:=ann) hJ (ret:=ret) fu
  cases it with
  |inBlock id=>simp only[ax]at he ⊢;exact ih _ _ _ he
  |inScope c=>simp only[ax]at he ⊢;exact ih _ _ _ he
  |inLoop c =>
   simp only[ax]at he ⊢
   split at he
   ·cases he
   ·rename_i sh hsh
    try simp only[hsh]
    split at he
    ·rename_i x hx
     try simp only[hx]
     exact hJ _ _ _ _ he
    ·cases he
  |code c =>
   cases c with
   |cond c x y =>
    simp only[ax]at he ⊢
    split at he
    ·rename_i t ht
     try simp only[ht]
     cases t<;>simp only[cond_true,cond_false]at he ⊢<;>exact ih _ _ _ he
    ·cases he
   |exit id =>
    simp only[ax]at he ⊢
    split at he
    ·rename_i k' hk
     try simp only[hk]
     exact ih _ _ _ he
    ·cases he
   |ret=>exact .now fun m=>by simpa only[ax] using he
   |region id ops draw =>simp only[ax]at he ⊢;exact Dn hA (K:=fun m eu=>ax P Eqs Sg (A m) n ann (J m) ret fu N1 eu) (fun st y h=>ih N1 st y h) he
   |skip=>simp only[ax]at he ⊢;exact ih _ _ _ he
   |label l=>simp only[ax]at he ⊢;exact ih _ _ _ he
   |seq x y=>simp only[ax]at he ⊢;exact ih _ _ _ he
   |block id c=>simp only[ax]at he ⊢;exact ih _ _ _ he
   |scope c=>simp only[ax]at he ⊢;exact ih _ _ _ he
   |loop c=>simp only[ax]at he ⊢;exact ih _ _ _ he
   |_=>simp only[ax]at he;cases he
  |_=>simp only[ax]at he;cases he
section
variable {An:FuncId→Nat→Option Shape} {G:(f:FuncId)→(g:aO)→Option (g.A→Option g.B)}
def XQ(F F':FT):Prop:=∀f g x y,F f g x=some y→F' f g x=some y
theorem XQ.to{F F':FT}(h:XQ F F'):To (fun _=>F') F:=fun f g x y hy=>.now fun _=>h f g x y hy
theorem uO.get{p:Prop}(h:uO fun _=>p):p:=by obtain⟨m,hm⟩:=h;exact hm m (acn _)
theorem oE{F F':FT}(h:XQ F F'){f:FuncId}{g:aO}{fn:Func}:∀(n n':Nat) (sh:Shape) (k:List Item) (x:sh.T) (y:g.B),n≤n'→mQ P Eqs Sg An F f g fn n sh k x=some y→mQ P Eqs Sg An F' f g fn n' sh k x=some y
 |0,_,_,_,_,_,_,hx=>by simp only[mQ]at hx;cases hx
 |n+1,0,_,_,_,_,hn,_=>by omega
 |n+1,n'+1,sh,k,x,y,hn,hx=>by
  cases k with
  |nil=>simp only[mQ]at hx;cases hx
  |cons it k =>
   cases it with
   |inLoop c =>simp only[mQ]at hx ⊢;exact(gH h.to (J:=fun _=>mQ P Eqs Sg An F' f g fn n') (JL:=mQ P Eqs Sg An F f g fn n) (fun sh k x y hy=>.now fun _=>oE h n n' sh k x y (by omega) hy) _ _ _ _ hx).get
   |_=>simp only[mQ]at hx;cases hx
theorem N3{F F':FT}(h:XQ F F'){f:FuncId}{g:aO}{n n':Nat}{x:g.A}{y:g.B}(hn:n≤n')(hx:JW P Eqs Sg An F f g n x=some y):JW P Eqs Sg An F' f g n' x=some y:=by
 unfold JW at hx ⊢
 split at hx
 ·cases hx
 ·rename_i fn c hb
  try simp only[hb]
  split at hx
  ·rename_i hc;simp only[if_pos hc];exact(gH h.to (J:=fun _=>mQ P Eqs Sg An F' f g fn n') (JL:=mQ P Eqs Sg An F f g fn n) (fun sh k x y hy=>.now fun _=>oE h n n' sh k x y hn hy) _ _ _ _ hx).get
  ·cases hx
theorem zY:∀m,XQ (Fn P Eqs Sg An G m) (Fn P Eqs Sg An G (m+1))
 |0,f,g,x,y,hx=>by
  simp only[Fn]at hx ⊢
  split at hx
  ·rename_i u hu;(try simp only[hu]);exact hx
  ·cases hx
 |m+1,f,g,x,y,hx=>by
  rw[Fn]at hx ⊢
  split at hx
  ·rename_i u hu;(try simp only[hu]);exact hx
  ·rename_i hu
   try simp only[hu]
   exact N3 (zY m) (Nat.le_succ m) hx
theorem zZ{m m':Nat}(h:m≤m'):XQ (Fn P Eqs Sg An G m) (Fn P Eqs Sg An G m'):=by
 induction h with
 |refl=>exact fun _ _ _ _ h=>h
 |step _ ih=>exact fun f g x y hx=>zY _ f g x y (ih f g x y hx)
variable (P Eqs Sg An G) in
open Classical in
noncomputable def Fix:FT:=fun f g x=>if h:∃m y,Fn P Eqs Sg An G m f g x=some y then some (Classical.choose (Classical.choose_spec h)) else none
theorem FL:To (Fn P Eqs Sg An G) (Fix P Eqs Sg An G):=fun f g x y hy=>by
 unfold Fix at hy
 split at hy
 ·rename_i h
  cases hy
  exact⟨Classical.choose h,fun m' hm=>zZ hm _ _ _ _ (Classical.choose_spec (Classical.choose_spec h))⟩
 ·cases hy
theorem QF{m:Nat}{f:FuncId}{g:aO}{x:g.A}{y:g.B}(h:Fn P Eqs Sg An G m f g x=some y):Fix P Eqs Sg An G f g x=some y:=by
 have he:∃m y,Fn P Eqs Sg An G m f g x=some y:=⟨m,y,h⟩
 cases hy:Fix P Eqs Sg An G f g x with
 |none=>unfold Fix at hy;rw[dif_pos he]at hy;cases hy
 |some y' =>obtain⟨m1,h1⟩:=FL f g x y' hy;have h2:=h1 (max m m1) (by omega);have h3:=zZ (show m≤max m m1 by omega) f g x y h;rw[h2]at h3;exact h3
variable (P Eqs Sg An G) in
open Classical in
noncomputable def Lp(f:FuncId)(g:aO)(fn:Func)(sh:Shape)(k:List Item)(x:sh.T):Option g.B :=if h:∃m y,mQ P Eqs Sg An (Fn P Eqs Sg An G m) f g fn m sh k x=some y then some (Classical.choose (Classical.choose_spec h)) else none
theorem QG{f:FuncId}{g:aO}{fn:Func}:ToJ (fun m=>mQ P Eqs Sg An (Fn P Eqs Sg An G m) f g fn m) (Lp P Eqs Sg An G f g fn):=fun sh k x y hy=>by
 unfold Lp at hy
 split at hy
 ·rename_i h
  cases hy
  exact⟨Classical.choose h,fun m' hm=>oE (zZ hm) _ _ _ _ _ _ hm (Classical.choose_spec (Classical.choose_spec h))⟩
 ·cases hy
theorem aao{m:Nat}{f:FuncId}{g:aO}{fn:Func}{sh:Shape}{k:List Item}{x:sh.T}{y:g.B}(h:mQ P Eqs Sg An (Fn P Eqs Sg An G m) f g fn m sh k x=some y):Lp P Eqs Sg An G f g fn sh k x=some y:=by
 have he:∃m y,mQ P Eqs Sg An (Fn P Eqs Sg An G m) f g fn m sh k x=some y:=⟨m,y,h⟩
 cases hy:Lp P Eqs Sg An G f g fn sh k x with
 |none=>unfold Lp at hy;rw[dif_pos he]at hy;cases hy
 |some y' =>obtain⟨m1,h1⟩:=QG sh k x y' hy;have h2:=h1 (max m m1) (by omega);have h3:=oE (zZ (show m≤max m m1 by omega)) m (max m m1) sh k x y (by omega) h;exact h2.symm.trans h3
theorem LZ{f:FuncId}{g:aO}{x:g.A}{y:g.B}{fn:Func}{c:Code}(hG:G f g=none)(hb:body P (f%1000)=some (fn,c))(hc:(decide (g.ps.length≤fn.ntmps)&&decide (g.bs.length≤8))=true) (h:ax P Eqs Sg (Fix P Eqs Sg An G) fn.ntmps (An f) (Lp P Eqs Sg An G f g fn) (q9 P g fn) fuel [.code c] (entry g x)=some y):Fix P Eqs Sg An G f g x=some y:=by obtain⟨m,hm⟩:=gH (FL (P:=P) (Eqs:=Eqs) (Sg:=Sg) (An:=An) (G:=G)) (QG (f:=f) (g:=g) (fn:=fn)) _ _ _ _ h;refine QF (m:=m+1) ?_;simp only[Fn,hG];unfold JW;simp only[hb,if_pos hc];exact hm m (acn _)
theorem Es{f:FuncId}{g:aO}{x:g.A}{y:g.B}{u:g.A→Option g.B}(hG:G f g=some u)(h:u x=some y):Fix P Eqs Sg An G f g x=some y:=by refine QF (m:=0) ?_;simp only[Fn,hG];exact h
theorem QH{f:FuncId}{g:aO}{fn:Func}{sh:Shape}{c:Code}{k:List Item}{x:sh.T}{y:g.B} (h:ax P Eqs Sg (Fix P Eqs Sg An G) fn.ntmps (An f) (Lp P Eqs Sg An G f g fn) (q9 P g fn) fuel (.code c::.inLoop c::k) (ar sh x)=some y):Lp P Eqs Sg An G f g fn sh (.inLoop c::k) x=some y:=by obtain⟨m,hm⟩:=gH (FL (P:=P) (Eqs:=Eqs) (Sg:=Sg) (An:=An) (G:=G)) (QG (f:=f) (g:=g) (fn:=fn)) _ _ _ _ h;refine aao (m:=m+1) ?_;simp only[mQ];refine(gH (L:=Fn P Eqs Sg An G m) (XQ.to (zY m)) (J:=fun _=>mQ P Eqs Sg An (Fn P Eqs Sg An G (m+1)) f g fn m) (JL:=mQ P Eqs Sg An (Fn P Eqs Sg An G m) f g fn m) (fun sh k x y hy=>.now fun _=>oE (zY m) m m sh k x y (acn _) hy) _ _ _ _ (hm m (acn _))).get
theorem z5(hX:∀f g u,Sg f=some g→g.x=some u→gV P (f%1000) u)(C2:∀t k,Eqs t=some k→l6 P t k)(NK:∀f g,Sg f=some g→jv P (f%1000))(hm:P.follows .mixedOrders=true) (hG:∀f g u x y,Sg f=some g→G f g=some u→u x=some y→Ef P f g x y) {f:FuncId} {g:aO} {x:g.A} {y:g.B} (hs:Sg f=some g) (h:Fix P Eqs Sg An G f g x=some y):Ef P f g x y:=by obtain⟨m,Ui⟩:=FL f g x y h;exact HN hX C2 NK hm hG m f g x y hs (Ui m (acn _))
end
end Go.Vs
namespace Go.Vs
open Go.Proofs
abbrev ab:=((Int×Int)×Int)
abbrev ID:=(Int×Int)
abbrev ai:=(ID×((List ab)×(ByteArray×Int)))
abbrev aq:=(ID×(ByteArray×Int))
abbrev ak:=((List ai)×(List aq))
abbrev aM:=(ab×ab)
abbrev StateT:=(ak×(List aM))
abbrev uP:=(ID×ab)
abbrev aY:=(Int×(ID×(ID×(ID×(uP×(uP×(Bool×(ByteArray×Int))))))))
abbrev aQ:=((List ai)×((List aq)×((List aM)×Unit)))
abbrev lI{α:Type}(l:List α):Int:=((l.length:Nat):Int)
abbrev wI(n:Int):Int:=IntKind.wrap .i64 n
abbrev OI:ID:=(0,0)
abbrev OD:ab:=(OI,0)
abbrev OC:uP:=(OI,OD)
abbrev OB:ByteArray:=⟨#[]⟩
abbrev OS:StateT:=(([],[]),[])
abbrev OW:aQ:=([],([],([],())))
abbrev k13:K:=(.pair .str (.int .u64))
abbrev jZ:K:=(.pair (.int .i64) (.int .i64))
abbrev k68:K:=(.pair .str (.pair (.int .i64) .bool))
abbrev bL:K:=(.pair jZ (.int .i64))
abbrev k7:K:=(.pair (.int .i64) (.pair (.int .i64) (.pair .bool (.int .u8))))
abbrev fJ:K:=(.pair jZ (.pair .str (.int .i64)))
abbrev XR:K:=(.pair jZ bL)
abbrev di:K:=(.pair bL bL)
abbrev dP:K:=(.pair jZ (.pair (.sl bL) (.pair .str (.int .i64))))
abbrev kZ:K:=(.pair (.sl dP) (.sl fJ))
abbrev qq:K:=(.pair kZ (.sl di))
abbrev C4:K:=(.pair (.int .i64) (.pair jZ (.pair jZ (.pair jZ (.pair XR (.pair XR (.pair .bool (.pair .str (.int .i64)))))))))
abbrev rv:K:=(.one (.sl C4))
def pW(xs:List ai)(ys:List aq):Bool:=decide (xs.length≤50000000)&&(decide (ys.length≤50000000)&&xs.all fun v=>decide (v.2.1.length≤50000000))
def FM(h:Heap)(id:Nat):List AV→Option (Bool×bq)
 |[.agg [.bC a,.bC b]]=>match dN h (.row 52 dP) (.bC a),dN h (.row 118 fJ) (.bC b) with
  |some xs,some ys=>if a=b then none else some (pW xs ys,.new (.agg [.bC (id+128),.bC (id+129)]) [(id+128,.own (.row 52 dP) xs),(id+129,.own (.row 118 fJ) ys)])
  |_,_=>none
 |_=>none
abbrev aei(a:List PK)(b:List RK):aO:={ ps:=a,bs:=[],rs:=b }
abbrev aej:K:=.int .i64
def N4:=aei [.val qq,.val qq] [.val .bool]
def Bz:=aei [.val kZ,.val kZ] [.val .bool]
def Kv:=aei [.val qq,.val rv] [.val qq,.val aej]
def vE:=aei [.val qq,.val rv] [.val qq]
def QI:=aei [.val C4] [.val aej]
def HP:=aei [.val qq,.val (.sl C4)] [.val qq,.val aej]
def FN:=aei [.val (.sl di),.val (.sl di)] [.val .bool]
def HQ:=aei [.val (.sl bL),.val (.sl bL)] [.val .bool]
def HR:=aei [.val rv] [.val aej]
def FO:=aei [.val kZ] [.agg [.own (.row 52 dP),.own (.row 118 fJ)]]
def HS:=aei [.val (.sl di)] [.own (.row 54 di)]
def QJ:=aei [.val C4] [.val C4,.val aej]
def FP:aO:={ ps:=[.ref,.val C4],bs:=[.box 155 [.own (.row 52 dP),.own (.row 118 fJ),.val (.sl di)]],rs:=[.val aej] }
def N5:=aei [.val (.sl dP)] [.own (.row 52 dP)]
def N6:=aei [.val (.sl fJ)] [.own (.row 118 fJ)]
def zq:=aei [.val (.sl bL)] [.own (.row 33 bL)]
def qI:=aei [.val jZ] [.val .bool]
def Dp:=aei [.val XR] [.val .bool]
def vF:=aei [.val .str] [.val .bool]
def FQ:=aei [.val aej] [.val .bool]
def HT:aO:={ ps:=[.ref,.val dP],bs:=[.box 155 [.own (.row 52 dP),.own (.row 118 fJ),.val (.sl di)]],rs:=[.val aej] }
def QK:aO:={ ps:=[.ref,.val C4],bs:=[.box 155 [.own (.row 52 dP),.own (.row 118 fJ),.val (.sl di)]],rs:=[.val aej] }
def pX:aO:={ ps:=[.ref,.val C4],bs:=[.box 155 [.own (.row 52 dP),.own (.row 118 fJ),.val (.sl di)]],rs:=[.val aej] }
def BA:aO:={ ps:=[.ref,.val C4],bs:=[.box 155 [.own (.row 52 dP),.own (.row 118 fJ),.val (.sl di)]],rs:=[.val aej] }
def zr:aO:={ ps:=[.ref,.val C4],bs:=[.box 155 [.own (.row 52 dP),.own (.row 118 fJ),.val (.sl di)]],rs:=[.val aej] }
def ry:aO:={ ps:=[.ref,.val C4],bs:=[.box 155 [.own (.row 52 dP),.own (.row 118 fJ),.val (.sl di)]],rs:=[.val aej] }
def QL:aO:={ ps:=[.ref,.val C4],bs:=[.box 155 [.own (.row 52 dP),.own (.row 118 fJ),.val (.sl di)]],rs:=[.val aej] }
def HU:=aei [.val bL] [.val .bool]
def qu:aO:={ ps:=[.ref,.val jZ],bs:=[.box 155 [.own (.row 52 dP),.own (.row 118 fJ),.val (.sl di)]],rs:=[.val aej,.val .bool] }
def We:aO:={ ps:=[],bs:=[],rs:=[],x:=some (PF 52 dP) }
def Wg:aO:={ ps:=[],bs:=[],rs:=[],x:=some (TV 52 dP) }
def yK:aO:={ ps:=[.ref,.val jZ],bs:=[.box 155 [.own (.row 52 dP),.own (.row 118 fJ),.val (.sl di)]],rs:=[.val aej] }
def BB:=aei [.val jZ] [.val bL,.val bL]
def HV:=aei [.val qq,.val XR] [.val XR,.val aej]
def BC:=aei [.val (.sl bL),.val bL,.val bL] [.own (.row 33 bL)]
def yL:=aei [.val kZ] [.val .bool]
def nr:aO:={ ps:=[.ref,.val jZ],bs:=[.box 155 [.own (.row 52 dP),.own (.row 118 fJ),.val (.sl di)]],rs:=[.val aej,.val .bool] }
def BD:aO:={ ps:=[.ref,.val bL,.val bL],bs:=[.box 155 [.own (.row 52 dP),.own (.row 118 fJ),.val (.sl di)]],rs:=[] }
def BE:aO:={ ps:=[.ref,.val bL],bs:=[.box 155 [.own (.row 52 dP),.own (.row 118 fJ),.val (.sl di)]],rs:=[.val bL] }
def mq:aO:={ ps:=[.ref,.val bL],bs:=[.box 155 [.own (.row 52 dP),.own (.row 118 fJ),.val (.sl di)]],rs:=[.eI 0 [(0,5,0)]] }
def HW:=aei [.val (.sl bL),.val bL] [.own (.row 33 bL)]
def Wh:aO:={ ps:=[],bs:=[],rs:=[],x:=some (TV 118 fJ) }
def tM:=aei [.val (.sl bL),.val bL,.val bL] [.own (.row 33 bL)]
def oF:=aei [.val bL] [.val bL]
def qv:=aei [.val (.sl bL)] [.own (.row 33 bL)]
def HX:aO:={ ps:=[.ref,.val C4],bs:=[.box 155 [.own (.row 52 dP),.own (.row 118 fJ),.val (.sl di)]],rs:=[.eI 0 [(0,5,3),(1,4,2)],.eI 0 [(0,5,4),(1,4,3)]] }
def Et:=aei [.val dP,.val jZ] [.val aej]
def yM:=aei [.val jZ,.val jZ] [.val aej]
def Wi:aO:={ ps:=[],bs:=[],rs:=[],x:=some (PF 118 fJ) }
def HY:=aei [.val kZ,.val jZ] [.val dP,.val .bool]
def yN:=aei [.val qq,.val bL] [.val bL]
def vG:=aei [.val (.sl bL),.val bL] [.val .bool]
def mr:=aei [.val (.sl bL),.val bL] [.val aej]
def oG:=aei [.val (.sl (.sl bL))] [.own (.row 33 bL)]
def HZ:=aei [.val kZ] [.val aej]
def Eu:=aei [.val fJ,.val jZ] [.val aej]
def H3:=aei [.val (.sl di),.val di] [.own (.row 54 di)]
def Ev:=aei [.val (.sl bL),.val bL] [.val bL,.val .bool]
def Ew:=aei [.val bL,.val bL] [.val aej]
def oH:=aei [.val (.sl (.sl bL))] [.own (.row 33 bL)]
def vH:=aei [.val (.sl aej)] [.val aej]
def BF:=aei [.val aej,.val aej] [.val aej]
def BG:=aei [.val dP] [.val jZ]
def vI:=aei [.val kZ,.val bL] [.val jZ,.val .bool]
def H4:=aei [.val (.sl di),.val bL] [.val bL,.val .bool]
def H5:=aei [.val kZ] [.val aej,.val aej,.val aej,.val aej]
def Ex:=aei [.val di,.val bL] [.val aej]
def Wj:aO:={ ps:=[],bs:=[],rs:=[],x:=some (PF 54 di) }
def BH:=aei [.val (.sl bL),.val bL,.val aej] [.val bL,.val .bool]
def Wl:aO:={ ps:=[],bs:=[],rs:=[],x:=some (PH 33 bL) }
def BI:=aei [.val aej] [.val .bool]
def H6:aO:={ ps:=[.val di,.ref],bs:=[.box 33 [.val aej,.val aej,.val aej]],rs:=[.val .bool] }
def H7:=aei [.val dP] [.val .bool]
def yO:=aei [.val kZ] [.own (.row 50 (.sl bL))]
def yP:=aei [.val kZ] [.val aej]
def vJ:=aei [.val kZ] [.own (.row 33 bL)]
def Wm:=aei [.val kZ] [.own (.row 28 (.sl jZ))]
def Ey:=aei [.val kZ,.val bL] [.val bL,.val .bool]
def ic:=aei [.val kZ] [.own (.row 3 aej)]
def yQ:=aei [.val kZ,.val bL] [.val bL,.val .bool]
def H8:aO:={ ps:=[.own,.val aej,.val aej],bs:=[.own (.row 3 aej)],rs:=[] }
def rz:aO:={ ps:=[.own,.val aej],bs:=[.own (.row 3 aej)],rs:=[.val aej] }
def H9:=aei [.val (.sl bL),.val bL] [.val bL,.val .bool]
def jy:=aei [.val (.sl dP),.val jZ,.tg 207 0] [.val aej,.val .bool]
def jz:=aei [.val (.sl fJ),.val jZ,.tg 214 0] [.val aej,.val .bool]
def kH:=aei [.val (.sl bL),.tg 195 0] [.val bL]
def kI:=aei [.val (.sl dP),.tg 109 0,.val jZ] [.val dP,.val .bool]
def jA:=aei [.val (.sl di),.val bL,.tg 232 0] [.val aej,.val .bool]
def jB:aO:={ ps:=[.val (.sl di),.tg 245 1],bs:=[.box 33 [.val bL]],rs:=[.val aej] }
def kJ:=aei [.val (.sl dP),.tg 239 0] [.val aej]
def Ia:aO:={ ps:=[],bs:=[],rs:=[],x:=some FM }
def QM:=aei [] []
abbrev k98:K:=(.pair rv jZ)
abbrev k99:K:=(.pair qq (.pair aej (.sl rv)))
abbrev ig:=(StateT×(Int×((List (List aY))×Unit)))
abbrev Wn:=(((List Int)×Unit)×Unit)
abbrev Wo:=((Bool×Unit)×((Unit×Unit)×Unit))
abbrev Q45:=(((List Bool)×Unit)×Unit)
abbrev Q46:=((Int×Unit)×((Unit×Unit)×Unit))
abbrev Q40:=((List aY)×ID)
abbrev Q41:=(((List (List aY))×(Int×Unit))×(ig×Unit))
abbrev Q42:=((StateT×Unit)×(ig×Unit))
abbrev Q0:=((Bool×Unit)×Unit)
abbrev Q1:=((StateT×(Int×Unit))×Unit)
abbrev Q2:=((Int×Unit)×Unit)
abbrev Q3:=(((List aY)×Unit)×Unit)
abbrev Q4:=((StateT×Unit)×Unit)
abbrev Q5:=((ak×Unit)×Unit)
abbrev Q6:=(((List ab)×Unit)×Unit)
abbrev Q7:=((ai×(Bool×Unit))×Unit)
abbrev Q8:=(List aY)
abbrev Q9:=((Int×Unit)×(ig×Unit))
abbrev Q10:=((aq×(Bool×Unit))×Unit)
abbrev TG:=((ab×Unit)×Unit)
abbrev Zd:=((ab×(Bool×Unit))×Unit)
abbrev Q13:=((ID×(Bool×Unit))×Unit)
abbrev Kw:=((Int×(Bool×Unit))×(aQ×Unit))
abbrev Q15:=((StateT×(aY×Unit))×Unit)
abbrev Q16:=((StateT×((List aY)×Unit))×Unit)
abbrev Q17:=(((List (List aY))×Unit)×Unit)
abbrev Q18:=(((List aM)×Unit)×Unit)
abbrev QN:=((Int×Unit)×(aQ×Unit))
abbrev Q20:=((ak×(ab×Unit))×Unit)
abbrev Q21:=(((List ab)×(ab×Unit))×Unit)
abbrev Wp:=((aY×Unit)×(aQ×Unit))
abbrev Ze:=((StateT×Unit)×((List (List aY))×Unit))
abbrev Q24:=(((List aY)×(Int×Unit))×Unit)
abbrev Q25:=(((List (List ab))×Unit)×Unit)
abbrev Q26:=((((List ai)×((List aq)×Unit))×Unit)×Unit)
abbrev Q27:=((uP×Unit)×Unit)
abbrev Q28:=((Int×(Int×Unit))×(ig×Unit))
abbrev Q29:=((StateT×((List (List aY))×Unit))×Unit)
abbrev Q30:=((ak×(ID×Unit))×Unit)
abbrev Q31:=(((Option ((Fin 1)×Nat))×Unit)×(aQ×Unit))
abbrev Q32:=(Unit×(ig×Unit))
abbrev Q33:=((ab×(ab×Unit))×Unit)
abbrev Q34:=(((List ab)×(ab×(ab×Unit)))×Unit)
abbrev Q35:=((Int×Unit)×((List Int)×Unit))
abbrev Q36:=((StateT×(Int×Unit))×(ig×Unit))
abbrev Q37:=(((List Bool)×Unit)×((List (List aY))×Unit))
abbrev Q38:=((Bool×(Int×Unit))×(((StateT×Unit)×((aY×Unit)×(aQ×(((List ai)×((List aq)×Unit))×Unit))))×Unit))
abbrev Q39:=((Int×Unit)×((aQ×((ab×Unit)×((ab×Unit)×((ab×Unit)×Unit))))×Unit))
def aj1(_:Heap)(id:Nat):List AV→Option (Bool×bq)
 |[]=>some (true,.new (.ref (id+128) 0 0 0) [(id+128,.box 100 (enc k99 (lR k99)))])
 |_=>none
def afo(h:Heap)(_:Nat):List AV→Option (Bool×bq)
 |[.ref i 0 0 0]=>match As h i 100 with
  |some cs=>match dg k99 cs with
   |some x=>some (true,.val (.int .i64 x.2.1))
   |none=>none
  |none=>none
 |_=>none
def air(h:Heap)(id:Nat):List AV→Option (Bool×bq)
 |[.ref i 0 0 0]=>match As h i 100 with
  |some cs=>match dg k99 cs with
   |some x=>some (true,.new (.ref (id+128) 0 0 0) [(id+128,.box 100 (enc k99 x))])
   |none=>none
  |none=>none
 |_=>none
def QO(_:Heap)(_:Nat):List AV→Option (Bool×bq)
 |[.sl _ k xs]=>some (true,.val (.sl true k xs))
 |[.fm]=>some (true,.val .fm)
 |_=>none
def vK:=aei [.val (.sl rv),.val aej] [.val .bool]
def Ib:=aei [] [.val .bool]
def vL:=aei [.val (.sl rv)] [.val (.sl rv)]
def kK:=aei [.val qq,.val (.sl rv)] [.val qq]
def BJ:=aei [.val qq,.val (.sl rv)] [.own (.row 4 .bool)]
def Ic:=aei [.val qq,.val qq] [.val .bool]
def BL:=aei [.val aej] [.val rv]
def Ez:=aei [.val qq,.val rv] []
def EA:aO:={ ps:=[.val qq,.val rv,.ref],bs:=[.box 46 [.own (.row 4 .bool)]],rs:=[] }
def L0:=aei [.val (.sl (.int .u8)),.val (.sl (.int .u8))] [.val .bool]
def oI:=aei [.val qq] [.own (.row 5 (.int .u8))]
def lk:=aei [.val kZ] [.own (.row 5 (.int .u8)),.val aej]
def EB:=aei [.val (.sl (.int .u8)),.val jZ] [.own (.row 5 (.int .u8))]
def Ie:=aei [.val fJ] [.val jZ]
def Ig:=aei [.val kZ] [.val aej]
def EC:=aei [.val (.sl (.int .u8)),.val fJ] [.own (.row 5 (.int .u8))]
def Ih:=aei [.val kZ] [.val aej]
def tN:=aei [.val (.sl (.int .u8)),.val aej] [.own (.row 5 (.int .u8))]
def Ii:=aei [.val (.sl (.int .u8)),.val .str] [.own (.row 5 (.int .u8))]
def vM:=aei [.val (.sl jZ)] [.val .bool]
def ll:=aei [.val kZ] [.val .bool]
def ED:=aei [.val .str,.val aej] [.val .bool]
def EE:=aei [.val .str,.val aej] [.val .bool]
def Wq:aO:={ ps:=[],bs:=[],rs:=[],x:=some QO }
def yR:=aei [.val (.sl bL),.val (.sl bL)] [.val .bool]
def kL:=aei [.val qq,.val (.sl rv),.tg 61 0] [.val qq]
def kM:aO:={ ps:=[.val qq,.val (.sl rv),.tg 62 1],bs:=[.box 46 [.own (.row 4 .bool)]],rs:=[.val qq] }
def oJ:aO:={ ps:=[.val qq,.own],bs:=[.own (.row 27 rv)],rs:=[.val qq] }
def rB:aO:={ ps:=[.val qq,.own],bs:=[.own (.row 27 rv)],rs:=[.own (.row 4 .bool)] }
def kN:aO:={ ps:=[.val qq,.own,.tg 61 0],bs:=[.own (.row 27 rv)],rs:=[.val qq] }
def kO:aO:={ ps:=[.val qq,.own,.tg 62 1],bs:=[.own (.row 27 rv),.box 46 [.own (.row 4 .bool)]],rs:=[.val qq] }
def N7:=aei [] []
def N8:=aei [] []
def QP:=aei [] []
def N9:=aei [] []
def kP:=aei [.val (.sl dP),.tg 109 0] [.own (.row 31 jZ)]
def kQ:=aei [.val (.sl fJ),.tg 138 0] [.own (.row 31 jZ)]
def rC:=aei [.val kZ,.tg 202 0] [.val .bool]
def rD:=aei [.val kZ,.tg 203 0] [.val .bool]
def ij:aO:={ ps:=[.val (.sl dP),.tg 223 1],bs:=[.box 209 [.val (.fn 202)]],rs:=[.val .bool] }
def il:aO:={ ps:=[.val (.sl dP),.tg 223 1],bs:=[.box 209 [.val (.fn 203)]],rs:=[.val .bool] }
def dp:aO:={ ps:=[.val (.sl dP),.tg 223 1],bs:=[.box 209 [.val (.fn 202)]],rs:=[.val aej] }
def dq:aO:={ ps:=[.val (.sl dP),.tg 223 1],bs:=[.box 209 [.val (.fn 203)]],rs:=[.val aej] }
def im:aO:={ ps:=[.val (.sl fJ),.tg 225 1],bs:=[.box 209 [.val (.fn 202)]],rs:=[.val .bool] }
def iq:aO:={ ps:=[.val (.sl fJ),.tg 225 1],bs:=[.box 209 [.val (.fn 203)]],rs:=[.val .bool] }
def dr:aO:={ ps:=[.val (.sl fJ),.tg 225 1],bs:=[.box 209 [.val (.fn 202)]],rs:=[.val aej] }
def du:aO:={ ps:=[.val (.sl fJ),.tg 225 1],bs:=[.box 209 [.val (.fn 203)]],rs:=[.val aej] }
def ir:aO:={ ps:=[.val dP,.ref],bs:=[.box 209 [.val (.fn 202)]],rs:=[.val .bool] }
def iu:aO:={ ps:=[.val dP,.ref],bs:=[.box 209 [.val (.fn 203)]],rs:=[.val .bool] }
def iv:aO:={ ps:=[.val fJ,.ref],bs:=[.box 209 [.val (.fn 202)]],rs:=[.val .bool] }
def iw:aO:={ ps:=[.val fJ,.ref],bs:=[.box 209 [.val (.fn 203)]],rs:=[.val .bool] }
def sgs:List (Nat×aO):=[(22,N4),(55,Bz),(63,Kv),(102,vE),(104,QI),(103,HP),(65,FN),(98,HQ),(66,HR),(96,FO),(97,HS),(132,QJ),(131,FP),(127,N5),(128,N6),(110,zq),(159,qI),(160,Dp),(161,vF),(162,FQ),(152,HT),(153,QK),(154,pX),(155,BA),(156,zr),(157,ry),(158,QL),(190,HU),(175,qu),(176,We),(177,Wg),(178,yK),(179,BB),(180,HV),(181,BC),(172,yL),(182,nr),(183,BD),(184,BE),(185,mq),(141,HW),(186,Wh),(187,tM),(188,oF),(169,qv),(189,HX),(207,Et),(208,yM),(211,Wi),(74,HY),(212,yN),(166,vG),(168,mr),(170,oG),(204,HZ),(214,Eu),(215,H3),(140,Ev),(195,Ew),(196,oH),(218,vH),(219,BF),(109,BG),(139,vI),(230,H4),(226,H5),(232,Ex),(233,Wj),(167,BH),(220,Wl),(235,BI),(245,H6),(239,H7),(240,yO),(241,yP),(249,vJ),(251,Wm),(255,Ey),(256,ic),(258,yQ),(259,H8),(260,rz),(261,H9),(208206,jy),(215213,jz),(196194,kH),(110108,kI),(233231,jA),(246244,jB),(240238,kJ),(500096,Ia),(900025,QM),(14,vK),(15,Ib),(16,vL),(18,kK),(19,BJ),(58,Ic),(59,BL),(61,Ez),(62,EA),(100,L0),(101,oI),(129,lk),(130,EB),(138,Ie),(150,Ig),(151,EC),(171,Ih),(173,tN),(174,Ii),(197,vM),(200,ll),(202,ED),(203,EE),(205,Wq),(221,yR),(62060,kL),(63060,kM),(500018,oJ),(500019,rB),(562060,kN),(563060,kO),(2514003,N7),(3537003,N8),(900022,QP),(2769003,N9),(110198,kP),(139199,kQ),(203201,rC),(204201,rD),(20300224222,ij),(20400224222,il),(20300224236,dp),(20400224236,dq),(20300226224,im),(20400226224,iq),(20300226237,dr),(20400226237,du),(20300000223,ir),(20400000223,iu),(20300000225,iv),(20400000225,iw)]
def Sg(f:FuncId):Option aO:=(sgs.find? (fun p=>p.1==f)).map (fun p=>p.2)
def eqs:List (Nat×K):=[(31,jZ),(33,bL),(35,XR),(37,C4),(118,fJ),(54,di)]
def Eqs(t:TypeId):Option K:=(eqs.find? (fun p=>p.1==t)).map (fun p=>p.2)
def BM:Shape:=⟨[(5,.int .i64)],[(.slot 2,20000,.box 41 [.val kZ]),(.slot 3,20001,.box 41 [.val kZ])],[],[]⟩
def BN:Shape:=⟨[(9,.int .i64)],[(.slot 2,20000,.box 41 [.val kZ]),(.slot 3,20001,.box 41 [.val kZ])],[],[]⟩
def BO:Shape:=⟨[(18,.sl C4),(19,.int .i64),(20,.int .i64)],[(.slot 4,20000,.box 44 [.own (.row 52 dP),.own (.row 118 fJ),.own (.row 54 di)]),(.slot 6,20001,.box 155 [.own (.row 52 dP),.own (.row 118 fJ),.val (.sl di)])],[],[]⟩
def BP:Shape:=⟨[(0,.sl di),(1,.sl di),(5,.int .i64)],[],[],[]⟩
def BQ:Shape:=⟨[(0,.sl bL),(1,.sl bL),(5,.int .i64)],[],[],[]⟩
def BR:Shape:=⟨[(17,.sl C4),(18,.int .i64),(19,.int .i64)],[],[],[]⟩
def BS:Shape:=⟨[(14,.int .i64),(15,.int .i64)],[(.slot 2,20000,.box 41 [.own (.row 52 dP),.own (.row 118 fJ)]),(.slot 3,20001,.box 41 [.own (.row 52 dP),.own (.row 118 fJ)])],[],[]⟩
def xk:Shape:=⟨[(0,.str)],[],[(6,31000,.nX)],[]⟩
def mu:Shape:=⟨[(48,.int .i64),(49,.int .i64)],[(.slot 0,1000,.box 155 [.own (.row 52 dP),.own (.row 118 fJ),.val (.sl di)]),(.slot 5,20001,.box 44 [.val qq]),(.slot 7,20002,.box 33 [.val bL])],[(9,31000,(.row 33 bL)),(47,31001,(.row 35 XR))],[]⟩
def FR:Shape:=⟨[(5,.int .i64),(32,.int .i64),(33,.int .i64)],[(.slot 0,1000,.box 155 [.own (.row 52 dP),.own (.row 118 fJ),.val (.sl di)]),(.slot 7,20001,.box 33 [.val bL]),(.slot 8,20002,.box 33 [.val bL])],[(31,31000,(.row 33 bL))],[]⟩
def xl:Shape:=⟨[(5,.int .i64),(47,.int .i64),(48,.int .i64)],[(.slot 0,1000,.box 155 [.own (.row 52 dP),.own (.row 118 fJ),.val (.sl di)])],[(46,31000,(.row 33 bL))],[]⟩
def nQ:Shape:=⟨[(113,.int .i64)],[(.slot 0,1000,.box 155 [.own (.row 52 dP),.own (.row 118 fJ),.val (.sl di)]),(.slot 8,20001,.box 33 [.val bL]),(.slot 9,20002,.box 33 [.val bL]),(.slot 10,20003,.box 33 [.val bL])],[],[]⟩
def z6:Shape:=⟨[(7,.int .i64)],[(.slot 0,1000,.box 155 [.own (.row 52 dP),.own (.row 118 fJ),.val (.sl di)]),(.slot 3,20001,.box 33 [.val bL]),(.slot 4,20002,.box 33 [.val bL]),(.slot 5,20003,.box 33 [.val bL])],[],[]⟩
def vN:Shape:=⟨[(12,.int .i64),(13,.int .i64)],[(.slot 0,1000,.box 155 [.own (.row 52 dP),.own (.row 118 fJ),.val (.sl di)]),(.slot 3,20001,.box 33 [.val bL])],[],[]⟩
def vO:Shape:=⟨[(12,.int .i64),(13,.int .i64)],[(.slot 2,20000,.box 44 [.val qq]),(.slot 3,20001,.box 33 [.val bL]),(.slot 4,20002,.box 33 [.val bL])],[],[]⟩
def vP:Shape:=⟨[(0,.sl bL),(7,.int .i64),(8,.int .i64)],[(.slot 3,20000,.box 33 [.val bL])],[],[]⟩
def vQ:Shape:=⟨[(0,.sl (.sl bL)),(3,.int .i64),(9,.sl (.sl bL)),(10,.int .i64),(11,.int .i64)],[],[],[]⟩
def vR:Shape:=⟨[(25,.sl (.sl bL)),(26,.int .i64),(27,.int .i64)],[],[(6,31000,(.row 33 bL))],[]⟩
def z7:Shape:=⟨[(3,.int .i64),(6,.sl aej),(7,.int .i64),(8,.int .i64)],[],[],[]⟩
def vS:Shape:=⟨[(9,.sl dP),(10,.int .i64),(11,.int .i64)],[(.slot 3,20000,.box 33 [.val bL]),(.slot 4,20001,.box 31 [.val jZ])],[],[]⟩
def vT:Shape:=⟨[(8,.sl fJ),(9,.int .i64),(10,.int .i64)],[],[(3,31000,(.row 33 bL))],[]⟩
def sE:Shape:=⟨[(18,.sl dP),(19,.int .i64),(20,.int .i64)],[],[(3,31000,(.row 3 aej)),(4,31001,(.map bL aej))],[]⟩
def vU:Shape:=⟨[(5,.int .i64),(18,.sl dP),(19,.int .i64),(20,.int .i64),(30,.sl bL),(31,.int .i64),(32,.int .i64)],[],[(3,31000,(.row 3 aej)),(4,31001,(.map bL aej))],[]⟩
def pY:Shape:=⟨[(4,.mp bL aej)],[],[(3,31000,(.row 3 aej)),(42,31001,(.iter bL aej))],[]⟩
def vW:Shape:=⟨[(61,.int .i64),(62,.int .i64)],[],[(3,31000,(.row 3 aej)),(13,31001,(.row 3 aej))],[]⟩
def vX:Shape:=⟨[(11,.sl dP),(12,.int .i64),(13,.int .i64)],[(.slot 3,20000,.box 33 [.val bL]),(.slot 4,20001,.box 33 [.val bL])],[],[]⟩
def sF:Shape:=⟨[(1,.int .i64)],[],[(0,1000,(.row 3 aej))],[]⟩
def iO:Shape:=⟨[(0,.sl dP),(8,.int .i64),(9,.int .i64),(10,.int .i64)],[(.slot 4,20000,.box 31 [.val jZ])],[],[(2,207,[])]⟩
def iP:Shape:=⟨[(0,.sl fJ),(8,.int .i64),(9,.int .i64),(10,.int .i64)],[(.slot 4,20000,.box 31 [.val jZ])],[],[(2,214,[])]⟩
def j0:Shape:=⟨[(0,.sl bL),(6,.int .i64)],[(.slot 4,20000,.box 33 [.val bL]),(.slot 5,20001,.box 33 [.val bL])],[],[(1,195,[])]⟩
def mv:Shape:=⟨[(11,.sl dP),(12,.int .i64),(13,.int .i64)],[(.slot 5,20000,.box 31 [.val jZ]),(.slot 6,20001,.box 52 [.val aej,.val aej,.own (.row 33 bL),.val .str,.val aej])],[],[(1,109,[])]⟩
def iQ:Shape:=⟨[(0,.sl di),(8,.int .i64),(9,.int .i64),(10,.int .i64)],[(.slot 4,20000,.box 33 [.val bL])],[],[(2,232,[])]⟩
def j4:Shape:=⟨[(0,.sl di),(7,.int .i64),(8,.int .i64)],[(.cap 1 0,1000,.box 33 [.val bL])],[],[(1,245,[1000])]⟩
def j5:Shape:=⟨[(5,.int .i64),(8,.sl dP),(9,.int .i64),(10,.int .i64)],[],[],[(1,239,[])]⟩
def lx:Shape:=⟨[(0,.sl rv),(5,.bool),(11,.int .i64)],[(.slot 7,20000,.box 44 [.val qq]),(.slot 8,20001,.box 44 [.val qq])],[(9,31000,(.row 4 .bool)),(10,31001,(.row 27 rv))],[]⟩
def pZ:Shape:=⟨[(0,.sl rv),(4,.int .i64)],[],[(3,31000,(.row 27 rv))],[]⟩
def mw:Shape:=⟨[(13,.sl rv),(14,.int .i64),(15,.int .i64)],[(.slot 6,20000,.box 44 [.own (.row 52 dP),.own (.row 118 fJ),.own (.row 54 di)]),(.slot 7,20001,.box 44 [.val qq])],[],[(2,61,[])]⟩
def my:Shape:=⟨[(13,.sl rv),(14,.int .i64),(15,.int .i64)],[(.cap 2 0,1000,.box 46 [.own (.row 4 .bool)]),(.slot 6,20001,.box 44 [.own (.row 52 dP),.own (.row 118 fJ),.own (.row 54 di)]),(.slot 7,20002,.box 44 [.val qq])],[],[(2,62,[1000])]⟩
def mz:Shape:=⟨[(14,.int .i64),(15,.int .i64)],[(.slot 6,20000,.box 44 [.own (.row 52 dP),.own (.row 118 fJ),.own (.row 54 di)]),(.slot 7,20001,.box 44 [.val qq])],[(13,1000,(.row 27 rv))],[(2,61,[])]⟩
def mA:Shape:=⟨[(14,.int .i64),(15,.int .i64)],[(.cap 2 0,1020,.box 46 [.own (.row 4 .bool)]),(.slot 6,20001,.box 44 [.own (.row 52 dP),.own (.row 118 fJ),.own (.row 54 di)]),(.slot 7,20002,.box 44 [.val qq])],[(13,1000,(.row 27 rv))],[(2,62,[1020])]⟩
def vY:Shape:=⟨[(16,.sl di),(17,.int .i64),(18,.int .i64)],[],[(3,31000,(.row 5 (.int .u8)))],[]⟩
def sG:Shape:=⟨[(16,.sl di),(17,.int .i64),(18,.int .i64),(27,.int .i64),(28,.int .i64)],[],[(3,31000,(.row 5 (.int .u8))),(26,31001,(.row 33 bL))],[]⟩
def sH:Shape:=⟨[(25,.sl fJ),(26,.int .i64),(27,.int .i64)],[(.slot 1,20000,.box 41 [.val kZ])],[(5,31000,(.map jZ aej)),(6,31001,(.row 5 (.int .u8)))],[]⟩
def sI:Shape:=⟨[(48,.sl dP),(49,.int .i64),(50,.int .i64)],[],[(5,31000,(.map jZ aej)),(6,31001,(.row 5 (.int .u8)))],[]⟩
def vZ:Shape:=⟨[(48,.sl dP),(49,.int .i64),(50,.int .i64),(71,.sl bL),(72,.int .i64),(73,.int .i64)],[],[(5,31000,(.map jZ aej)),(6,31001,(.row 5 (.int .u8)))],[]⟩
def p4:Shape:=⟨[(0,.sl (.int .u8)),(1,.int .i64),(14,.int .i64)],[],[(5,31000,(.row 5 (.int .u8)))],[]⟩
def sJ:Shape:=⟨[(0,.sl jZ),(5,.sl jZ),(6,.int .i64),(7,.int .i64)],[],[],[]⟩
def v5:Shape:=⟨[(12,.sl fJ),(13,.int .i64),(14,.int .i64)],[(.slot 1,20000,.box 41 [.val kZ])],[(3,31000,(.map bL .bool))],[]⟩
def sK:Shape:=⟨[(28,.sl dP),(29,.int .i64),(30,.int .i64)],[],[(3,31000,(.map bL .bool))],[]⟩
def sL:Shape:=⟨[(28,.sl dP),(29,.int .i64),(30,.int .i64),(42,.sl bL),(43,.int .i64),(44,.int .i64)],[],[(3,31000,(.map bL .bool))],[]⟩
def v7:Shape:=⟨[(0,.sl bL),(1,.sl bL),(12,.int .i64),(13,.int .i64)],[],[],[]⟩
def mB:Shape:=⟨[(8,.sl dP),(9,.int .i64),(10,.int .i64)],[],[(5,31000,(.row 31 jZ))],[(1,109,[])]⟩
def mC:Shape:=⟨[(8,.sl fJ),(9,.int .i64),(10,.int .i64)],[],[(5,31000,(.row 31 jZ))],[(1,138,[])]⟩
def fz:Shape:=⟨[(0,.sl dP),(7,.int .i64),(8,.int .i64)],[(.cap 1 0,1000,.box 209 [.val (.fn 202)])],[],[(1,223,[1000])]⟩
def fB:Shape:=⟨[(0,.sl dP),(7,.int .i64),(8,.int .i64)],[(.cap 1 0,1000,.box 209 [.val (.fn 203)])],[],[(1,223,[1000])]⟩
def fC:Shape:=⟨[(0,.sl fJ),(7,.int .i64),(8,.int .i64)],[(.cap 1 0,1000,.box 209 [.val (.fn 202)])],[],[(1,225,[1000])]⟩
def fD:Shape:=⟨[(0,.sl fJ),(7,.int .i64),(8,.int .i64)],[(.cap 1 0,1000,.box 209 [.val (.fn 203)])],[],[(1,225,[1000])]⟩
def ans:List (Nat×List (Nat×Shape)):=[(55,[(4,BM),(12,BN)]),(103,[(3,BO)]),(65,[(4,BP)]),(98,[(4,BQ)]),(66,[(4,BR)]),(96,[(3,BS)]),(161,[(2,xk)]),(154,[(8,mu)]),(155,[(6,FR),(11,xl)]),(157,[(19,nQ)]),(184,[(3,z6)]),(185,[(2,vN)]),(212,[(2,vO)]),(168,[(2,vP)]),(196,[(3,vQ),(11,vR)]),(218,[(3,z7)]),(139,[(2,vS)]),(249,[(3,vT)]),(256,[(4,sE),(8,vU),(14,pY),(21,vW)]),(258,[(2,vX)]),(260,[(1,sF)]),(208206,[(3,iO)]),(215213,[(3,iP)]),(196194,[(5,j0)]),(110108,[(2,mv)]),(233231,[(3,iQ)]),(246244,[(2,j4)]),(240238,[(3,j5)]),(14,[(11,lx)]),(16,[(3,pZ)]),(62060,[(3,mw)]),(63060,[(3,my)]),(562060,[(3,mz)]),(563060,[(3,mA)]),(101,[(3,vY),(6,sG)]),(129,[(7,sH),(14,sI),(19,vZ)]),(173,[(4,p4)]),(197,[(2,sJ)]),(200,[(3,v5),(9,sK),(14,sL)]),(221,[(4,v7)]),(110198,[(3,mB)]),(139199,[(3,mC)]),(20300224236,[(2,fz)]),(20400224236,[(2,fB)]),(20300226237,[(2,fC)]),(20400226237,[(2,fD)])]
def An(f:FuncId)(key:Nat):Option Shape:=(ans.find? (fun p=>p.1==f)).bind fun p=>(p.2.find? (fun q=>q.1==key)).map (fun q=>q.2)
abbrev JT(g:aO):=(sh:Shape)→List Item→sh.T→Option g.B
noncomputable def cm(f:FuncId)(g:aO)(fn:Func)(F:FT)(J:JT g)(x:g.A):Option g.B:=ax Tryz.prog Eqs Sg F fn.ntmps (An f) J (q9 Tryz.prog g fn) fuel [.code (fn.body.getD .skip)] (entry g x)
noncomputable def jC(f j:Nat)(g:aO)(fn:Func)(sh:Shape)(F:FT)(J:JT g)(x:sh.T):Option g.B:=ax Tryz.prog Eqs Sg F fn.ntmps (An f) J (q9 Tryz.prog g fn) fuel (round (aZ Tryz.prog (f%1000) j)) (ar sh x)
end Go.Vs
namespace Go.Vs
open Go.Proofs
variable {G:(f:FuncId)→(g:aO)→Option (g.A→Option g.B)}
noncomputable abbrev FX(G:(f:FuncId)→(g:aO)→Option (g.A→Option g.B)):FT:=Fix Tryz.prog Eqs Sg An G
noncomputable abbrev LX(G:(f:FuncId)→(g:aO)→Option (g.A→Option g.B))(f:FuncId)(g:aO)(fn:Func):JT g:=Lp Tryz.prog Eqs Sg An G f g fn
abbrev HG(G:(f:FuncId)→(g:aO)→Option (g.A→Option g.B)):Prop:=∀f g,(f==240 || f==241)=false→G f g=none
theorem aA{f:FuncId}{g:aO}{fn:Func}{x:g.A}{y:g.B}{z:Option g.B}(hG:G f g=none)(e:cm f g fn (FX G) (LX G f g fn) x=z)(h:z=some y) (hb:body Tryz.prog (f%1000)=some (fn,fn.body.getD .skip):=by kernel_rfl) (hc:(decide (g.ps.length≤fn.ntmps)&&decide (g.bs.length≤8))=true:=by kernel_rfl):FX G f g x=some y:=LZ hG hb hc (e.trans h)
theorem aC{f j:Nat}{g:aO}{fn:Func}{sh:Shape}{x:sh.T}{y:g.B}{z:Option g.B}(e:jC f j g fn sh (FX G) (LX G f g fn) x=z)(h:z=some y) (hs:(match aZ Tryz.prog (f%1000) j with | .inLoop _::_=>true|_=>false)=true:=by kernel_rfl):LX G f g fn sh (aZ Tryz.prog (f%1000) j) x=some y:=by
 have h:=e.trans h;unfold jC at h;generalize aZ Tryz.prog (f%1000) j=s at hs h ⊢
 split at hs
 ·exact QH h
 ·cases hs
abbrev aab:=(Int×(Int×Unit))
abbrev aad:=(ab×Unit)
abbrev aag:=(ID×Unit)
abbrev aai:=(StateT×Unit)
abbrev aaj:=(Int×Unit)
abbrev aak:=((List (List aY))×Unit)
abbrev aam:=(aad×Unit)
abbrev aap:=((List Bool)×Unit)
abbrev aaq:=(aQ×Unit)
abbrev aar:=(Unit×Unit)
abbrev aas:=((List ab)×Unit)
abbrev abn:=((List ai)×aab)
end Go.Vs
