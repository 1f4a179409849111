/- The value semantics is sound -/
import Derived.Test.YtpkfpbpbkabkdaaGreatEngineC
import Derived.Test.YtpkfpbpbkabkdaaGreatProg
import Derived.Scope
import Derived.KernelRfl
set_option linter.unusedSimpArgs false
set_option linter.unusedVariables false
namespace Go.Vs
variable {P:Program} {Eqs:TypeId→Option K} {Sg:FuncId→Option aL} {F:(f:FuncId)→(g:aL)→g.A→Option g.B} {R:Type}
variable {Z Z' Z0:Nat→Prop} {ψ ψ' ψ0:Nat→Value} {h h':Hp} {w w' w0:World} {B0:Nat} {O N:Nat→Prop}
def eX(st:St):(l:List (Nat×Nat×OK))→I4 (l.map (·.2.2))→List xq
 |[],_=>[]
 |(s,id,ok)::r,x=>(id,(oi (look st.tmps s)).head?,.own ok x.1)::eX st r x.2
theorem uD(st:St):∀(l:List (Nat×Nat×OK)) (x:I4 (l.map (·.2.2))),dx (eX st l x)=qf l x
 |[],_=>rfl
 |(s,id,ok)::r,x=>by simp only[eX,qf];rw[←uD st r x.2];rfl
theorem sx(st:St):∀(l:List (Nat×Nat×OK)) (x:I4 (l.map (·.2.2))),(eX st l x).map (·.1)=l.map (·.2.1)
 |[],_=>rfl
 |(s,id,ok)::r,x=>by simp only[eX,List.map_cons];rw[sx st r x.2]
theorem xJ(st:St):∀(l:List (Nat×Nat×OK)) (x:I4 (l.map (·.2.2))),(eX st l x).filterMap (·.2.1)=l.flatMap fun p=>oi (look st.tmps p.1)
 |[],_=>rfl
 |(s,id,ok)::r,x=>by simp only[eX,List.flatMap_cons];rw[dJ,xJ st r x.2];simp only[];rw[vW]
theorem qu{st:St}{s id:Nat}{ok:OK}{r:List (Nat×Nat×OK)}{x:I4 (((s,id,ok)::r).map (·.2.2))}(hd:mJ st ((s,id,ok)::r)=some x):dL st.heap ok (look st.tmps s)=some x.1∧mJ st r=some x.2:=by
 have e:mJ st ((s,id,ok)::r)=(match dL st.heap ok (look st.tmps s),mJ st r with
  |some x,some y=>some ((x,y):ok.T×I4 (r.map (·.2.2)))
  |_,_=>none):=rfl
 rw[e]at hd;clear e;generalize dL st.heap ok (look st.tmps s)=o1 at hd ⊢;generalize mJ st r=o2 at hd ⊢
 cases o1 with
 |none=>cases hd
 |some x1 =>
  cases o2 with
  |none=>cases hd
  |some y1=>have:=ada hd;subst this;exact⟨rfl,rfl⟩
theorem AB{hd:Hp}{st:St}:∀(l:List (Nat×Nat×OK)) (x:I4 (l.map (·.2.2))),mJ st l=some x→(∀s∈(l.flatMap fun p=>oi (look st.tmps p.1)),hd s=st.heap.get s) → ∀e∈eX st l x,uo Z ψ hd w h' ψ' e
 |[],_,_,_,e,he=>by simp[eX]at he
 |(s,id,ok)::r,x,hx,hk,e,he=>by
  obtain⟨h1,h2⟩:=qu hx;simp only[List.flatMap_cons]at hk;simp only[eX]at he;rcases acn.1 he with rfl|he
  ·exact KS h1 fun s hs=>hk s (acr _ hs)
  ·exact AB r x.2 h2 (fun s hs=>hk s (acW _ hs)) e he
theorem GC{st:St}{s:Nat}{k:K}{r:List (Nat×K)}{x:FQ (((s,k)::r).map (·.2))}(hd:qd st ((s,k)::r)=some x):fF k st.heap (look st.tmps s)=some x.1∧qd st r=some x.2:=by
 have e:qd st ((s,k)::r)=(match fF k st.heap (look st.tmps s),qd st r with
  |some x,some y=>some ((x,y):k.T×FQ (r.map (·.2)))
  |_,_=>none):=rfl
 rw[e]at hd;clear e;generalize fF k st.heap (look st.tmps s)=o1 at hd ⊢;generalize qd st r=o2 at hd ⊢
 cases o1 with
 |none=>cases hd
 |some x1 =>
  cases o2 with
  |none=>cases hd
  |some y1=>have:=ada hd;subst this;exact⟨rfl,rfl⟩
theorem eE{T:List (Nat×AV)}{n:Nat}{a:Act}(fe:∀p∈T,av Z ψ h w p.2 (a.tmps.getD p.1 undef))(hs:a.tmps.size=n)(hd:a.defers=[]):cH Z ψ h w n (look T) a:=by
 refine⟨fun d=>?_,hs,hd⟩
 induction T with
 |nil=>simp only[look,av]
 |cons p r ih =>
  obtain⟨i,v⟩:=p;simp only[look]
  split
  ·rename_i e;subst e;exact fe _ ac9
  ·exact ih fun p hp=>fe p (acm _ hp)
section
variable {st:St} {n:Nat} {a:Act}
theorem uE(g:Good Z ψ st.heap.get w B0 O)(t:cH Z ψ st.heap.get w n (look st.tmps) a)(hz:∀b,Z b→Z' b):∀(l:List (Nat×K)) (x:FQ (l.map (·.2))),qd st l=some x →(∀id b,AV.bF id∈(l.flatMap fun p=>(look st.tmps p.1).cells)→st.heap.get id≠none→ob (ψ id)=some b→Z' b)→∀p∈qe l x,av Z' ψ' h' w p.2 (a.tmps.getD p.1 undef)
 |[],_,_,_,p,hp=>by simp[qe]at hp
 |(s,k)::r,x,hx,hf,p,hp=>by
  obtain⟨h1,h2⟩:=GC hx;simp only[List.flatMap_cons]at hf;simp only[qe]at hp;rcases acn.1 hp with rfl|hp
  ·exact rf g hz (fun id b bL=>hf id b (acr _ bL)) h1 (t.rep s)
  ·exact uE g t hz r x.2 h2 (fun id b bL=>hf id b (acW _ bL)) p hp
theorem sy(t:cH Z ψ st.heap.get w n (look st.tmps) a):∀(l:List (Src×Nat×BK)) (ids:List Nat),Ei st l=some ids→(∀i∈ids,st.heap.get i≠none) →(∀p∈ids.zip (l.map (·.2.1)),h' p.2≠none→ψ' p.2=ψ p.1)→∀p∈jt l,av Z' ψ' h' w p.2 (a.tmps.getD p.1 undef)
 |[],_,_,_,_,p,hp=>by simp[jt]at hp
 |(src,l9,b)::r,ids,hx,hi,iI,p,hp=>by
  simp only[Ei]at hx
  split at hx
  ·rename_i i is h1 h2
   cases hx
   simp only[List.map_cons,List.zip_cons_cons]at iI;have ih:=sy t r is h2 (fun j hj=>hi j (acm _ hj)) (fun p hp=>iI p (acm _ hp)) p
   cases src with
   |slot s =>
    simp only[jt]at hp;rcases acn.1 hp with rfl|hp
    ·simp only[UU]at h1;obtain⟨sz,h3⟩:=oC h1;have h4:=t.rep s;rw[h3]at h4;exact yJ h4 (hi i ac9) (iI (i,l9) ac9)
    ·exact ih hp
   |cap s j=>exact ih (by simpa only[jt] using hp)
  ·cases hx
theorem GD{hh:Heap}{ids:List (Nat×Nat)}(hi:∀p∈ids,hh.get p.1≠none)(iI:∀p∈ids,h' p.2≠none→ψ' p.2=ψ p.1):∀(cap:List AV) (is Cv:List Nat) (vs:List Value),jr cap=some is → is.map (fun i=>(ids.find? (·.1==i)).map (·.2))=Cv.map some→ak Z ψ hh.get w cap vs→ak Z' ψ' h' w (Cv.map fun i=>.ref i 0 0 0) vs
 |[],is,Cv,vs,h1,h2,hr=>by
  simp only[jr]at h1
  cases h1
  cases Cv with
  |nil=>simpa only[List.map_nil,ak] using hr
  |cons c r=>simp at h2
 |v::cap,is,Cv,vs,h1,h2,hr=>by
  simp only[jr]at h1
  split at h1
  ·rename_i i is' h3 h4
   cases h1
   cases Cv with
   |nil=>simp at h2
   |cons c r =>
    simp only[List.map_cons,List.cons.injEq]at h2;obtain⟨h5,h6⟩:=h2;simp only[List.map_cons,ak]at hr ⊢;obtain⟨u,us,rfl,h7,h8⟩:=hr;obtain⟨sz,rfl⟩:=oC h3
    cases hf:ids.find? (·.1==i) with
    |none=>rw[hf]at h5;cases h5
    |some p =>
     rw[hf]at h5;have hm:=adt hf;have he:=adC hf;simp only[Option.map_some,Option.some.injEq]at h5;have Wm:p.1=i:=by simpa using he
     refine⟨u,us,rfl,yJ h7 (by rw[←Wm];exact hi p hm) (fun hn=>?_),GD hi iI cap is' r us h4 h6 h8⟩;rw[←h5,←Wm];exact iI p hm (by rw[h5];exact hn)
  ·cases h1
theorem xK(t:cH Z ψ st.heap.get w n (look st.tmps) a){ids:List (Nat×Nat)}(hi:∀p∈ids,st.heap.get p.1≠none)(iI:∀p∈ids,h' p.2≠none→ψ' p.2=ψ p.1):∀(l:List (Nat×FuncId×List Nat)),KO st ids l=true → ∀p∈yD l,av Z' ψ' h' w p.2 (a.tmps.getD p.1 undef)
 |[],_,p,hp=>by simp[yD]at hp
 |(s,f,Cv)::r,hx,p,hp=>by
  simp only[KO,Bool.and_eq_true]at hx;simp only[yD,List.map_cons]at hp;rcases acn.1 hp with rfl|hp
  ·have h1:=hx.1
   split at h1
   ·rename_i f' cap hl;simp only[Bool.and_eq_true,decide_eq_true_eq]at h1;obtain⟨rfl,h2⟩:=h1
    split at h2
    ·rename_i is hri;have h4:=t.rep s;rw[hl]at h4;simp only[av]at h4 ⊢;obtain⟨vs,h5,h6⟩:=h4;exact⟨vs,h5,GD hi iI cap is Cv _ hri (of_decide_eq_true h2) h6⟩
    ·cases h2
   ·cases h1
  ·exact xK t hi iI r hx.2 p hp
theorem uF(t:cH Z ψ st.heap.get w n (look st.tmps) a):∀(l:List (Nat×Nat×OK)) (x:I4 (l.map (·.2.2))),mJ st l=some x→(∀e∈eX st l x,h' e.1≠none→ψ' e.1=jx ψ e.2.1) → ∀p∈(l.map fun p=>(p.1,AV.bF p.2.1)),av Z' ψ' h' w p.2 (a.tmps.getD p.1 undef)
 |[],_,_,_,p,hp=>by simp at hp
 |(s,id,ok)::r,x,hx,iI,p,hp=>by
  obtain⟨h1,h2⟩:=qu hx;simp only[eX]at iI;simp only[List.map_cons]at hp;rcases acn.1 hp with rfl|hp
  ·exact Eu h1 (t.rep s) (iI _ ac9)
  ·exact uF t r x.2 h2 (fun e he=>iI e (acm _ he)) p hp
end
theorem uG{st:St}{m:Nat}:∀(l:List (Nat×Nat×OK)) (x:I4 (l.map (·.2.2))),np st m l=true→∃o,(m,some m,o)∈eX st l x
 |[],_,h=>by cases h
 |(s,id,ok)::r,x,h=>by
  simp only[np,Bool.or_eq_true,Bool.and_eq_true,beq_iff_eq]at h;rcases h with⟨rfl,h⟩|h
  ·split at h
   ·rename_i i hl;have hi:i=id:=by simpa using h
    subst hi;exact⟨_,by simp only[eX,hl,oi,List.head?_cons];exact ac9⟩
   ·cases h
  ·obtain⟨o,ho⟩:=uG r x.2 h;exact⟨o,acm _ ho⟩
theorem sB{st:St}{m:Nat}:∀(l:List (Nat×Nat×OK)) (x:I4 (l.map (·.2.2))),mJ st l=some x→np st m l=true→st.heap.get m≠none
 |[],_,_,h=>by cases h
 |(s,id,ok)::r,x,hx,h=>by
  obtain⟨h1,h2⟩:=qu hx;simp only[np,Bool.or_eq_true,Bool.and_eq_true,beq_iff_eq]at h;rcases h with⟨rfl,h⟩|h
  ·split at h
   ·rename_i i hl;have hi:i=id:=by simpa using h
    subst hi;rw[hl]at h1;simp only[dL]at h1
    split at h1
    ·rename_i hg;rw[hg];simp
    ·cases h1
   ·cases h
  ·exact sB r x.2 h2 h
theorem KW{km:List AV}{hh:Heap}{b:Nat}(hb:pT Z ψ hh.get km b):Z b∨Own ψ hh.get b:=hb.imp (fun h=>h) fun⟨i,_,h2,h3⟩=>⟨i,h2,h3⟩
theorem fS{sh:Shape}{st:St}{x:sh.T}{n:Nat}{a:Act}(hx:cx sh st=some x)(k:Ok Z0 w0 O ψ0 Z ψ st.heap.get w)(t:cH Z ψ st.heap.get w n (look st.tmps) a) :
  ∃Z' ψ',Ok Z0 w0 O ψ0 Z' ψ' (an sh x).heap.get w∧cH Z' ψ' (an sh x).heap.get w n (look (an sh x).tmps) a:=by
 unfold cx at hx
 split at hx
 ·cases hx
 rename_i ids rT
 split at hx
 ·rename_i xv xb xr hv hb hr CC
  cases hx
  simp only[Bool.and_eq_true]at CC;obtain⟨GF,Ak,aeJ,aeK⟩:=CC;obtain⟨hlen,Am⟩:=iP _ _ _ hb;have Vb:(sh.boxes.map (·.2.1)).length=sh.bs.length:=by simp[Shape.bs]
  let L:List xq:=cr sh.bs st.heap ids (sh.boxes.map (·.2.1)) 9000 xb++eX st sh.rows xr
  have eH:dx L=(an sh (xv,xb,xr)).heap:=by show dx (_++_)=_;rw[mn,iO _ _ _ _ _ _ hb Vb,uD];rfl
  have eN:L.map (·.1)=qZ sh:=by show(_++_:List xq).map _=_;rw[List.map_append,gK _ _ _ _ _ _ hb Vb,sx];rfl
  have eS:L.filterMap (·.2.1)=FU st sh ids:=by show(_++_:List xq).filterMap _=_;rw[List.filterMap_append,jW _ _ _ _ _ _ hb Vb,xJ];rfl
  have hn:b6 (L.map (·.1))=true:=by rw[eN];exact Ak
  have iI:=yI (ψ:=ψ) hn;have hz:∀b,Z b→pT Z ψ st.heap.get (yC st sh ids) b:=fun b hb=>.inl hb;have IT:=(rm GF).2 st.heap;have g':Good (pT Z ψ st.heap.get (yC st sh ids)) (eC ψ L) (dx L).get w w0.heap.size O:=by
   refine vX k.dB GF hn eS fun e he=>?_;rcases adb.1 he with he|he
   ·exact lz k.dB hz sh.bs ids _ 9000 xb hb (fun id b bL h1 h2=>.inr ⟨id,acW _ bL,h1,h2⟩) (fun s hs=>IT s (acr _ hs)) (fun e he=>iI e (acr _ he)) e he
   ·exact AB sh.rows xr hr (fun s hs=>IT s (acW _ hs)) e he
  have OZ:∀p∈ids.zip (sh.boxes.map (·.2.1)),(dx L).get p.2≠none→eC ψ L p.2=ψ p.1:=fun p hp bq=>by obtain⟨o,ho⟩:=jX sh.bs ids (sh.boxes.map (·.2.1)) 9000 xb (hh:=st.heap) hlen p hp;exact iI (p.2,some p.1,o) (acr _ ho) bq
  have yF:∀p∈ids.zip (sh.boxes.map (·.2.1)),st.heap.get p.1≠none:=fun p hp=>Am _ (List.of_mem_zip hp).1;refine⟨pT Z ψ st.heap.get (yC st sh ids),eC ψ L,?_,?_⟩
  ·rw[←eH];refine⟨g',fun b hb=>.inl (k.fC b hb),fun b hb=>?_,k.os,k.tape,k.output,k.size,k.block,fun i hi bq=>?_⟩
   ·rcases KW hb with h1|⟨id,h1,h2⟩
    ·exact k.dY b h1
    ·exact .inr (k.dB.live id b h1 h2).2.symm
   ·obtain⟨o,ho⟩:=ade.1 bq;obtain⟨s,hm⟩:=nt ho;have iU:i∈qZ sh:=by rw[←eN];exact adq.2 ⟨_,hm,rfl⟩
    have h1:=ado.1 aeJ i iU;simp only[Bool.or_eq_true,decide_eq_true_eq]at h1;rcases h1 with(h1|h1)|h1
    ·omega
    ·obtain⟨p,hp,he⟩:=List.any_eq_true.1 h1;simp only[Bool.and_eq_true,beq_iff_eq]at he;have h2:=OZ p hp (by rw[he.2];exact bq);rw[he.1,he.2]at h2;rw[h2];exact k.fix i hi (by have:=yF p hp;rwa [he.1]at this)
    ·obtain⟨o',mO⟩:=uG sh.rows xr h1;have h2:eC ψ L i=ψ i:=iI (i,some i,o') (acW _ mO) bq;rw[h2];exact k.fix i hi (sB sh.rows xr hr h1)
  ·rw[←eH];refine eE (fun p hp=>?_) t.size t.defers;simp only[an]at hp;rcases adb.1 hp with hp|hp
   ·exact uE k.dB t hz sh.yh xv hv (fun id b bL h1 h2=>.inr ⟨id,acr _ bL,h1,h2⟩) p hp
   ·rcases adb.1 hp with hp|hp
    ·exact sy t sh.boxes ids rT Am OZ p hp
    ·rcases adb.1 hp with hp|hp
     ·exact xK t yF OZ sh.fns aeK p hp
     ·exact uF t sh.rows xr hr (fun e he=>iI e (acW _ he)) p hp
 ·cases hx
end Go.Vs
namespace Go.Vs
variable {P:Program} {Eqs:TypeId→Option K} {Sg:FuncId→Option aL} {F:(f:FuncId)→(g:aL)→g.A→Option g.B} {R:Type}
variable {Z Z' Z0:Nat→Prop} {ψ ψ' ψ0:Nat→Value} {h h':Hp} {w w' w0:World} {B0:Nat} {O N:Nat→Prop}
def Reach(P:Program)(b:Frame)(cs:List Frame)(tk:Act→World→Prop)(m:Machine):Prop:=∃a' w' todo,tk a' w'∧Steps P m (lone { b.at a' todo with mode:=.returning } cs w')
theorem Reach.head{b:Frame}{cs:List Frame}{tk:Act→World→Prop}{m m':Machine}(h:step P m=.next m')(r:Reach P b cs tk m'):Reach P b cs tk m:=by obtain⟨a,w,todo,h1,h2⟩:=r;exact⟨a,w,todo,h1,.head h h2⟩
theorem Reach.steps{b:Frame}{cs:List Frame}{tk:Act→World→Prop}{m m':Machine}(h:Steps P m m')(r:Reach P b cs tk m'):Reach P b cs tk m:=by obtain⟨a,w,todo,h1,h2⟩:=r;exact⟨a,w,todo,h1,h.trans h2⟩
mutual
theorem GG{p:Nat→Prop}(hp:∀i,p i):∀v:AV,aE p v
 |.ref id _ _ _=>by simp only[aE];exact hp id
 |.bF id=>by simp only[aE];exact hp id
 |.fn _ cap=>by simp only[aE];exact ru hp cap
 |.agg cs=>by simp only[aE];exact ru hp cs
 |.mG vs=>by simp only[aE];exact ru hp vs
 |.no=>by simp only[aE]
 |.bool _=>by simp only[aE]
 |.int _ _=>by simp only[aE]
 |.str _=>by simp only[aE]
 |.kI=>by simp only[aE]
 |.fK=>by simp only[aE]
 |.fp _ _ _=>by simp only[aE]
 |.sl _ _ _=>by simp only[aE]
 |.mp _ _ _=>by simp only[aE]
theorem ru{p:Nat→Prop}(hp:∀i,p i):∀l:List AV,ax p l
 |[]=>by simp only[ax]
 |v::r=>by simp only[ax];exact⟨GG hp v,ru hp r⟩
end
theorem Tz(s:Nat){n:Nat}{a:Act}{st:St}(k:Ok Z0 w0 O ψ0 Z ψ st.heap.get w)(t:cH Z ψ st.heap.get w n (look st.tmps) a):∃Z',Ok Z0 w0 O ψ0 Z' ψ (Ol s st).heap.get w∧cH Z' ψ (Ol s st).heap.get w n (look (Ol s st).tmps) a:=by
 unfold Ol
 split
 ·rename_i m hl
  split
  ·rename_i ty kk xs hg;have g:=k.dB;obtain⟨vs,KX,uj⟩:=g.row m (.row ty kk) xs hg;have hs:∀i o,(st.heap.del m).get i=some o→st.heap.get i=some o:=fun i o hi=>by rw[uf]at hi;by_cases e:i=m<;>simp_all [dA]
   have gg:=g.freeze (Z':=fun b=>Z b∨ob (ψ m)=some b) (h':=(st.heap.del m).get) hs (fun b hb=>.inl hb) (fun b hb=>hb.imp (fun h=>h) (fun hb=>⟨m,by rw[hg];simp,by rw[uf,bg],hb⟩));have n1:Next Z ψ st.heap.get w w0.heap.size O (fun _=>False) (fun b=>Z b∨ob (ψ m)=some b) ψ (st.heap.del m).get w:=⟨fun b hb=>.inl hb,fun b hb=>hb.imp (fun h=>h) (fun hb=>.inl ⟨m,by rw[hg];simp,hb⟩),cV.refl _ _ _,fun i hi=>by obtain⟨o,ho⟩:=ade.1 hi;exact .inl ⟨by rw[hs i o ho];simp,rfl⟩,gg⟩;refine⟨_,k.next (fun id h=>h.elim) n1,⟨fun d=>?_,t.size,t.defers⟩⟩;rw[rq _ rfl];have hr:=t.rep d;by_cases hv:look st.tmps d=.bF m
   ·rw[hv]at hr ⊢;simp only[av]at hr;have hu:=hr.2 (by rw[hg];simp);simp only[yg,if_true,av];exact⟨by rw[hu];exact tX KX uj (fun b hb=>.inl hb) (fun b hb=>.inr hb),by simp⟩
   ·have hf:yg m (.sl false kk xs) (look st.tmps d)=look st.tmps d:=by
     unfold yg
     split
     ·split
      ·rename_i i hi e;subst e;exact absurd hi hv
      ·rename_i i hi e;exact hi.symm
     ·rfl
    rw[hf];exact n1.rep g (GG (fun _ h=>h) _) hr
  ·exact⟨Z,k,t⟩
 ·exact⟨Z,k,t⟩
theorem Pr{n:Nat}{a:Act}(o:Option Shape){st:St}(k:Ok Z0 w0 O ψ0 Z ψ st.heap.get w)(t:cH Z ψ st.heap.get w n (look st.tmps) a):∃Z',Ok Z0 w0 O ψ0 Z' ψ (FV o st).heap.get w∧cH Z' ψ (FV o st).heap.get w n (look (FV o st).tmps) a:=by
 unfold FV
 split
 ·rename_i sh;generalize sh.rows=l
  induction l generalizing Z st with
  |nil=>exact⟨Z,k,t⟩
  |cons p r ih =>obtain⟨Z1,k1,t1⟩:=Tz p.1 k t;exact ih k1 t1
 ·exact⟨Z,k,t⟩
theorem qv(V:Env P Eqs Sg F)(hm:P.follows .mixedOrders=true){n:Nat}{ann:Nat→Option Shape}{J:(sh:Shape)→List Item→sh.T→Option R}{ret:St→Option R}{r:R}{b:Frame}{cs:List Frame}{tk:Act→World→Prop} (hJ:∀sh c k x Z ψ a w,J sh (.inLoop c::k) x=some r→Ok Z0 w0 O ψ0 Z ψ (an sh x).heap.get w→cH Z ψ (an sh x).heap.get w n (look (an sh x).tmps) a→Reach P b cs tk (lone (b.at a (.code c::.inLoop c::k)) cs w)) (rW:∀st Z ψ a w,ret st=some r→Ok Z0 w0 O ψ0 Z ψ st.heap.get w→cH Z ψ st.heap.get w n (look st.tmps) a→tk a w) :
  ∀(fu:Nat) (items:List Item) (st:St) (Z:Nat→Prop) (ψ:Nat→Value) (a:Act) (w:World),az P Eqs Sg F n ann J ret fu items st=some r→Ok Z0 w0 O ψ0 Z ψ st.heap.get w→cH Z ψ st.heap.get w n (look st.tmps) a → Reach P b cs tk (lone (b.at a items) cs w)
 |0,items,st,Z,ψ,a,w,hx,k,t=>by
  cases items<;>simp only[az]at hx<;>cases hx
 |fu+1,[],st,Z,ψ,a,w,hx,k,t=>⟨a,w,[],rW st Z ψ a w (by simpa only[az] using hx) k t,.one step_end⟩
 |fu+1,it::ML,st,Z,ψ,a,w,hx,k,t=>by
  have ih:=qv V hm (ann:=ann) hJ rW fu;have loop:∀c,(match ann (q6 c) with
    |none=>none
    |some sh=>match cx sh st with
     |some x=>J sh (.inLoop c::ML) x
     |none=>none)=some r→Reach P b cs tk (lone (b.at a (.code c::.inLoop c::ML)) cs w):=fun c hx=>by
   split at hx
   ·cases hx
   ·rename_i sh hsh
    split at hx
    ·rename_i x hxx;obtain⟨Z',ψ',k',t'⟩:=fS hxx k t;exact hJ sh c ML x Z' ψ' a w hx k' t'
    ·cases hx
  cases it with
  |inBlock id=>exact .head step_inBlock (ih ML st Z ψ a w (by simpa only[az] using hx) k t)
  |inScope c=>exact .head step_inScope (ih ML st Z ψ a w (by simpa only[az] using hx) k t)
  |inLoop c=>exact .head step_inLoop (loop c (by simp only[az]at hx;exact hx))
  |code c =>
   cases c with
   |skip=>exact .head step_skip (ih ML st Z ψ a w (by simpa only[az] using hx) k t)
   |label l=>exact .head step_label (ih ML st Z ψ a w (by simpa only[az] using hx) k t)
   |seq x y=>exact .head step_seq (ih _ st Z ψ a w (by simpa only[az] using hx) k t)
   |cond c x y =>
    simp only[az]at hx
    split at hx
    ·rename_i tt ht;have h1:=qq t c;rw[ht]at h1;simp only[av]at h1
     cases tt with
     |true=>exact .head (step_cond h1) (ih _ st Z ψ a w hx k t)
     |false=>exact .head (step_cond h1) (ih _ st Z ψ a w hx k t)
    ·cases hx
   |scope c=>exact .head step_scope (ih _ st Z ψ a w (by simpa only[az] using hx) k t)
   |block id c=>exact .head step_block (ih _ st Z ψ a w (by simpa only[az] using hx) k t)
   |loop c =>
    simp only[az]at hx
    cases fu with
    |zero=>simp only[az]at hx;cases hx
    |succ fu=>exact .head step_loop (loop c (by simp only[az]at hx;exact hx))
   |exit id =>
    simp only[az]at hx
    split at hx
    ·rename_i k' hk;exact .head (step_exit hk) (ih _ st Z ψ a w hx k t)
    ·cases hx
   |ret=>exact⟨a,w,_,rW st Z ψ a w (by simpa only[az] using hx) k t,.one step_ret⟩
   |region id ops draw =>simp only[az]at hx;obtain⟨Zf,k,t⟩:=Pr (ann (500000+id)) k t;have hw:=EI V hm (Q:=fun e a w=>e=.normal∧∃dX Z ψ,az P Eqs Sg F n ann J ret fu ML dX=some r∧Ok Z0 w0 O ψ0 Z ψ dX.heap.get w∧cH Z ψ dX.heap.get w n (look dX.tmps) a) hx k t (fun dX Z ψ a w h1 h2 h3=>⟨rfl,dX,Z,ψ,h1,h2,h3⟩);obtain⟨e,a',w',⟨rfl,dX,Z',ψ',h1,h2,h3⟩,OY⟩:=hw b ML cs;exact .steps OY (ih ML dX Z' ψ' a' w' h1 h2 h3)
   |_=>simp only[az]at hx;cases hx
  |_=>simp only[az]at hx;cases hx
theorem qw{hh:Heap}{n:Nat}{s:List (Nat×AV)}{a:Act}(g:Good Z ψ hh.get w B0 O)(t:cH Z ψ hh.get w n (look s) a):∀(l:List ResultVar) (acc:Array Value) (vs:List AV),xd P hh s l=some vs → ∃us,(l.foldlM (fun(bs:Array Value) r=>do let y ←(match r with | .tmp t=>pure (a.tmps.getD t undef) | .cell p ty=>do loadVar ty (←asAddr (a.tmps.getD p undef)):Sem Value);pure (bs.push y)) acc:Sem (Array Value)).run P w=.ok (acc++us.toArray) w∧ak Z ψ hh.get w vs us
 |[],acc,vs,hx=>by
  simp only[xd]at hx
  cases hx
  exact⟨[],by simp,by simp only[ak]⟩
 |.tmp d::l,acc,vs,hx=>by
  simp only[xd]at hx
  split at hx
  ·rename_i gL h1
   cases hx
   obtain⟨us,h2,h3⟩:=qw g t l (acc.push (a.tmps.getD d undef)) gL h1;refine⟨a.tmps.getD d undef::us,?_,by simp only[ak];exact⟨_,_,rfl,t.rep d,h3⟩⟩;simp only[List.foldlM_cons,Sem.run_bind,Sem.run_pure,Result.andThen_ok];rw[h2];simp
  ·cases hx
 |.cell d ty::l,acc,vs,hx=>by
  simp only[xd]at hx
  split at hx
  ·rename_i id sz off hd
   split at hx
   ·rename_i bt cs hg
    split at hx
    ·rename_i v gL hv h1
     cases hx
     have h4:=t.rep d;rw[hd]at h4;simp only[av]at h4;obtain⟨ad,h5,h6⟩:=h4;obtain⟨gg,ws,e1,e2,e3,e4⟩:=g.box id bt cs hg;have h7:=h6 (by rw[hg];simp);rw[e1]at h7;simp only[SV,Nat.zero_mul,Nat.zero_add]at h7;subst h7;obtain⟨V,h8,h9⟩:=jv (a:=⟨gg,off,none⟩) (e3.drop off) (fun j u hu=>by rw[cG];simp only[World.cell?,e2];rw[List.getElem?_drop]at hu;simpa using hu) hv;have mL:(loadVar ty ⟨gg,off,none⟩).run P w=.ok V w:=by have:=h8;simpa[Instr.loadAt,Instr.sureAddr] using this
     obtain⟨us,h2,h3⟩:=qw g t l (acc.push V) gL h1;refine⟨V::us,?_,by simp only[ak];exact⟨_,_,rfl,h9,h3⟩⟩;have yi:(asAddr (a.tmps.getD d undef)).run P w=.ok ⟨gg,off,none⟩ w:=by rw[h5];rfl
     simp only[List.foldlM_cons,Sem.run_bind,yi,Sem.run_pure,Result.andThen_ok,mL];rw[h2];simp
    ·cases hx
   ·cases hx
  ·cases hx
theorem GH{fn:Func}{hh:Heap}{n:Nat}{s:List (Nat×AV)}{a:Act}{vs:List AV}(g:Good Z ψ hh.get w B0 O)(t:cH Z ψ hh.get w n (look s) a)(hx:xd P hh s fn.results.toList=some vs) :
  ∃us v,(results fn a.tmps).run P w=.ok v w∧ak Z ψ hh.get w vs us∧v=(if us.length=1 then us.headD undef else .tuple us.toArray):=by
 obtain⟨us,h1,h2⟩:=qw (P:=P) g t fn.results.toList #[] vs hx;refine⟨us,_,?_,h2,rfl⟩;have h3:(fn.results.mapM fun r=>(match r with | .tmp t=>pure (a.tmps.getD t undef) | .cell p ty=>do loadVar ty (←asAddr (a.tmps.getD p undef)):Sem Value)).run P w=.ok us.toArray w:=by rw[Array.mapM_eq_foldlM,←Array.foldlM_toList];simpa using h1
 have h4:results fn a.tmps=(do
   let vs ←fn.results.mapM fun r=>(match r with | .tmp t=>pure (a.tmps.getD t undef) | .cell p ty=>do loadVar ty (←asAddr (a.tmps.getD p undef)):Sem Value)
   pure (if h:vs.size=1 then vs[0] else .tuple vs)):=rfl
 rw[h4,Sem.run_bind,h3,Result.andThen_ok,Sem.run_pure];congr 1;by_cases h5:us.length=1
 ·obtain⟨u,rfl⟩:=List.length_eq_one_iff.1 h5;simp
 ·rw[dif_neg (by simpa using h5),if_neg h5]
theorem fT:∀(ps:List PK) (ids:List Nat) (s:Nat) (x:FQ (kr ps)) (us:List Value),ak Z ψ h w ((aO ps ids s x).map (·.2)) us→us.length=ps.length∧∀p∈aO ps ids s x,∃j u,p.1=s+j∧us[j]? = some u∧av Z ψ h w p.2 u
 |[],ids,s,x,us,hr=>by simp only[aO,List.map_nil,ak]at hr;subst hr;exact⟨rfl,fun p hp=>by simp[aO]at hp⟩
 |.val k::ps,ids,s,x,us,hr=>by
  simp only[aO,List.map_cons,ak]at hr;obtain⟨u,iq,rfl,h1,h2⟩:=hr;obtain⟨h3,h4⟩:=fT ps ids (s+1) x.2 iq h2;refine⟨by simp[h3],fun p hp=>?_⟩;simp only[aO]at hp;rcases acn.1 hp with rfl|hp
  ·exact⟨0,u,rfl,rfl,h1⟩
  ·obtain⟨j,u',h5,h6,h7⟩:=h4 p hp;exact⟨j+1,u',by omega,by simpa using h6,h7⟩
 |.ref::ps,i::ids,s,x,us,hr=>by
  simp only[aO,List.map_cons,ak]at hr;obtain⟨u,iq,rfl,h1,h2⟩:=hr;obtain⟨h3,h4⟩:=fT ps ids (s+1) x iq h2;refine⟨by simp[h3],fun p hp=>?_⟩;simp only[aO]at hp;rcases acn.1 hp with rfl|hp
  ·exact⟨0,u,rfl,rfl,h1⟩
  ·obtain⟨j,u',h5,h6,h7⟩:=h4 p hp;exact⟨j+1,u',by omega,by simpa using h6,h7⟩
 |.ref::ps,[],s,x,us,hr=>by
  simp only[aO,List.map_cons,ak]at hr;obtain⟨u,iq,rfl,h1,h2⟩:=hr;obtain⟨h3,h4⟩:=fT ps [] (s+1) x iq h2;refine⟨by simp[h3],fun p hp=>?_⟩;simp only[aO]at hp;rcases acn.1 hp with rfl|hp
  ·exact⟨0,u,rfl,rfl,h1⟩
  ·obtain⟨j,u',h5,h6,h7⟩:=h4 p hp;exact⟨j+1,u',by omega,by simpa using h6,h7⟩
 |.own::ps,i::ids,s,x,us,hr=>by
  simp only[aO,List.map_cons,ak]at hr;obtain⟨u,iq,rfl,h1,h2⟩:=hr;obtain⟨h3,h4⟩:=fT ps ids (s+1) x iq h2;refine⟨by simp[h3],fun p hp=>?_⟩;simp only[aO]at hp;rcases acn.1 hp with rfl|hp
  ·exact⟨0,u,rfl,rfl,h1⟩
  ·obtain⟨j,u',h5,h6,h7⟩:=h4 p hp;exact⟨j+1,u',by omega,by simpa using h6,h7⟩
 |.own::ps,[],s,x,us,hr=>by
  simp only[aO,List.map_cons,ak]at hr;obtain⟨u,iq,rfl,h1,h2⟩:=hr;obtain⟨h3,h4⟩:=fT ps [] (s+1) x iq h2;refine⟨by simp[h3],fun p hp=>?_⟩;simp only[aO]at hp;rcases acn.1 hp with rfl|hp
  ·exact⟨0,u,rfl,rfl,h1⟩
  ·obtain⟨j,u',h5,h6,h7⟩:=h4 p hp;exact⟨j+1,u',by omega,by simpa using h6,h7⟩
 |.FH f m::ps,ids,s,x,us,hr=>by
  simp only[aO,List.map_cons,ak]at hr;obtain⟨u,iq,rfl,h1,h2⟩:=hr;obtain⟨h3,h4⟩:=fT ps (ids.drop m) (s+1) x iq h2;refine⟨by simp[h3],fun p hp=>?_⟩;simp only[aO]at hp;rcases acn.1 hp with rfl|hp
  ·exact⟨0,u,rfl,rfl,h1⟩
  ·obtain⟨j,u',h5,h6,h7⟩:=h4 p hp;exact⟨j+1,u',by omega,by simpa using h6,h7⟩
 |.agg m::ps,ids,s,x,us,hr=>by
  simp only[aO,List.map_cons,ak]at hr;obtain⟨u,iq,rfl,h1,h2⟩:=hr;obtain⟨h3,h4⟩:=fT ps (ids.drop m) (s+1) x iq h2;refine⟨by simp[h3],fun p hp=>?_⟩;simp only[aO]at hp;rcases acn.1 hp with rfl|hp
  ·exact⟨0,u,rfl,rfl,h1⟩
  ·obtain⟨j,u',h5,h6,h7⟩:=h4 p hp;exact⟨j+1,u',by omega,by simpa using h6,h7⟩
section
variable {An:FuncId→Nat→Option Shape}
theorem AD(V:Env P Eqs Sg F)(hm:P.follows .mixedOrders=true){f:FuncId}{g:aL}{fn:Func}{y:g.B}{b:Frame}{cs:List Frame}{tk:Act→World→Prop} (rW:∀st Z ψ a w,qg P g fn st=some y→Ok Z0 w0 O ψ0 Z ψ st.heap.get w→cH Z ψ st.heap.get w fn.ntmps (look st.tmps) a→tk a w) :
  ∀(n:Nat) (sh:Shape) (c:Code) (k:List Item) (x:sh.T) (Z:Nat→Prop) (ψ:Nat→Value) (a:Act) (w:World),ma P Eqs Sg An F f g fn n sh (.inLoop c::k) x=some y → Ok Z0 w0 O ψ0 Z ψ (an sh x).heap.get w→cH Z ψ (an sh x).heap.get w fn.ntmps (look (an sh x).tmps) a→Reach P b cs tk (lone (b.at a (.code c::.inLoop c::k)) cs w)
 |0,sh,c,k,x,Z,ψ,a,w,hx,_,_=>by simp only[ma]at hx;cases hx
 |n+1,sh,c,k,x,Z,ψ,a,w,hx,ko,t=>by simp only[ma]at hx;exact qv V hm (fun sh c k x Z ψ a w h1 h2 h3=>AD V hm rW n sh c k x Z ψ a w h1 h2 h3) rW fuel _ _ Z ψ a w hx ko t
theorem EJ{n i:Nat}(h:i∈aM n):∃j,j<n∧i=1000+20*j:=by unfold aM at h;obtain⟨j,h1,rfl⟩:=adq.1 h;exact⟨j,adw.1 h1,rfl⟩
theorem Ps{α:Type}{l:List α}{a:α}(h:a∈l):(a,a)∈l.zip l:=by
 induction l with
 |nil=>cases h
 |cons b r ih =>
  simp only[List.zip_cons_cons];rcases acn.1 h with rfl|h
  ·exact ac9
  ·exact acm _ (ih h)
theorem JF(V:Env P Eqs Sg F)(hm:P.follows .mixedOrders=true){f:FuncId}{g:aL}{n:Nat}{x:g.A}{y:g.B}(hx:I5 P Eqs Sg An F f g n x=some y):Dc P f g x y:=by
 intro Z ψ0 w jY hg hr;unfold I5 at hx
 split at hx
 ·cases hx
 rename_i fn c Vc;have hf:P.funcs[f%1000]? = some fn∧fn.body=some c:=by
  unfold body at Vc;obtain⟨fn',h1,h2⟩:=adp.1 Vc;obtain⟨c',h3,h4⟩:=ads.1 h2
  cases h4
  exact⟨h1,h3⟩
 split at hx
 ·rename_i hle;simp only[Bool.and_eq_true,decide_eq_true_eq]at hle;obtain⟨hlen,WO⟩:=fT g.ps (aM g.bs.length) 0 x.1 jY hr;intro cs
  let b:Frame:={ (default:Frame) with fn:=f%1000,kind:=.normal }
  let a0:Act:={ tmps:=jY.toArray++Array.replicate (fn.ntmps-jY.toArray.size) undef,defers:=[] }
  have WQ:Frame.enter P (f%1000) jY.toArray .normal=b.at a0 [.code c]:=by simp[Frame.enter,Frame.at,hf.1,hf.2,b,a0]
  have ok0:Ok Z w (Own ψ0 (oH g x)) ψ0 Z ψ0 (entry g x).heap.get w :=⟨hg,fun _ h=>h,fun _ h=>.inl h,rfl,rfl,rfl,adg _,fun _ _ _=>rfl,fun _ _ _=>rfl⟩;have tr0:cH Z ψ0 (entry g x).heap.get w fn.ntmps (look (entry g x).tmps) a0:=by
   refine eE (fun p hp=>?_) (by simp[a0];omega) rfl;obtain⟨j,u,h1,h2,h3⟩:=WO p hp;rw[h1];have hj:j<jY.length:=(ack.1 h2).1;have:a0.tmps.getD (0+j) undef=u:=by rw[Nat.zero_add,Array.getD_eq_getD_getElem?];simp only[a0];rw[Array.getElem?_append_left (by simpa using hj)];simp[h2]
   rw[this];exact h3
  have rW:∀st Z1 m0 a w1,qg P g fn st=some y→Ok Z w (Own ψ0 (oH g x)) ψ0 Z1 m0 st.heap.get w1→cH Z1 m0 st.heap.get w1 fn.ntmps (look st.tmps) a → a.defers=[]∧∃v,(results fn a.tmps).run P w1=.ok v w1∧∃v' Z' ψ',Ending.returned v=.returned v'∧(∀b,Z b→Z' b)∧(∀b,Z' b→Z b∨Own ψ0 (oH g x) b∨w.heap.size≤b)∧cV ψ0 (oH g x) w w1 ∧ Good Z' ψ' (jA g y).get w1 w.heap.size (Own ψ0 (oH g x))∧(∀i∈aM g.bs.length,ψ' i=ψ0 i)∧av Z' ψ' (jA g y).get w1 (eO (aP g.rs (aM g.bs.length) 2000 3000 y.1)) v':=by
   intro st Z1 m0 a w1 rW k t;refine⟨t.defers,?_⟩;unfold qg at rW
   split at rW
   ·cases rW
   rename_i vs ns
   split at rW
   ·rename_i y1 y2 hd hb CC
    cases rW
    simp only[Bool.and_eq_true]at CC;obtain⟨GF,Ak⟩:=CC;obtain⟨us,v,h1,h2,h3⟩:=GH (P:=P) k.dB t ns;have Vb:(aM g.bs.length).length=g.bs.length:=by simp[aM]
    let L:List xq:=cr g.bs st.heap (aM g.bs.length) (aM g.bs.length) 2000 y2++cv g.rs vs 3000 y1
    have eH:dx L=jA g (y1,y2):=by show dx (_++_)=_;rw[mn,iO _ _ _ _ _ _ hb Vb,gi];rfl
    have eN:L.map (·.1)=pW g:=by show(_++_:List xq).map _=_;rw[List.map_append,gK _ _ _ _ _ _ hb Vb,fm];rfl
    have eS:L.filterMap (·.2.1)=cU g.bs st.heap (aM g.bs.length)++dH g.rs vs:=by show(_++_:List xq).filterMap _=_;rw[List.filterMap_append,jW _ _ _ _ _ _ hb Vb,iu _ _ _ _ hd]
    have hn:b6 (L.map (·.1))=true:=by rw[eN];exact Ak
    have iI:=yI (ψ:=m0) hn;have hz:∀b,Z1 b→pT Z1 m0 st.heap.get (fN g.rs vs++fM g.bs st.heap (aM g.bs.length)) b:=fun b hb=>.inl hb;have IT:=(rm GF).2 st.heap;have g':Good (pT Z1 m0 st.heap.get (fN g.rs vs++fM g.bs st.heap (aM g.bs.length))) (eC m0 L) (dx L).get w1 w.heap.size (Own ψ0 (oH g x)):=by
     refine vX k.dB GF hn eS fun e he=>?_;rcases adb.1 he with he|he
     ·exact lz k.dB hz g.bs _ _ 2000 y2 hb (fun id b bL h1 h2=>.inr ⟨id,acW _ bL,h1,h2⟩) (fun s hs=>IT s (acr _ hs)) (fun e he=>iI e (acr _ he)) e he
     ·exact jz g.rs vs 3000 y1 hd (fun s hs=>IT s (acW _ hs)) e he
    obtain⟨Dn,Am⟩:=iP _ _ _ hb;have Pu:=rp (ids2:=aM g.bs.length) (Z':=pT Z1 m0 st.heap.get (fN g.rs vs++fM g.bs st.heap (aM g.bs.length))) (ψ':=eC m0 L) (h':=(dx L).get) k.dB hz hb Vb (fun e he=>iI e (acr _ he)) g.rs vs 3000 y1 us hd (fun id b bL h1 h2=>.inr ⟨id,acr _ bL,h1,h2⟩) (fun e he=>iI e (acW _ he)) h2;refine⟨v,h1,v,pT Z1 m0 st.heap.get (fN g.rs vs++fM g.bs st.heap (aM g.bs.length)),eC m0 L,rfl,fun b hb=>.inl (k.fC b hb),fun b hb=>?_,⟨k.os,k.tape,k.output,k.size,k.block⟩,by rw[←eH];exact g',fun i hi=>?_,?_⟩
    ·rcases KW hb with h4|⟨id,h4,h5⟩
     ·exact k.dY b h4
     ·exact .inr (k.dB.live id b h4 h5).2.symm
    ·obtain⟨o,ho⟩:=jX (hh:=st.heap) g.bs (aM g.bs.length) (aM g.bs.length) 2000 y2 Dn (i,i) (Ps hi);rw[ir hn (List.mem_append_left _ ho)];obtain⟨j,h4,h5⟩:=EJ hi;exact k.fix i (by omega) (Am i hi)
    ·rw[←eH];have Ot:us.length=(aP g.rs (aM g.bs.length) 2000 3000 y1).length:=Pu.length.symm;rw[h3]
     match hE:aP g.rs (aM g.bs.length) 2000 3000 y1,us,Pu,Ot with
     |[],[],Pu,_=>simp only[eO];simp only[av];exact⟨#[],rfl,by simpa using Pu⟩
     |[e1],[u],Pu,_ =>
      simp only[ak]at Pu;obtain⟨u',iq,he,h4,_⟩:=Pu
      cases he
      simpa[eO] using h4
     |e1::e2::er,u1::u2::ur,Pu,_ =>simp only[eO,av];exact⟨(u1::u2::ur).toArray,by simp,by simpa using Pu⟩
   ·cases rW
  have reach:=qv V hm (b:=b) (cs:=cs) (fun sh c k x Z ψ a w h1 h2 h3=>AD V hm rW n sh c k x Z ψ a w h1 h2 h3) rW fuel _ _ Z ψ0 a0 w hx ok0 tr0;obtain⟨a',w',todo,⟨hd,v,uH,hR⟩,hs⟩:=reach;rw[←WQ]at hs;exact⟨.returned v,w',_,hR,hs,rfl,rfl,hd,rfl,fn,hf.1,uH⟩
 ·cases hx
end
theorem GI(hX:∀f g u,Sg f=some g→g.x=some u→fE P (f%1000) u){G:(f:FuncId)→(g:aL)→Option (g.A→Option g.B)}{An:FuncId→Nat→Option Shape}(Cn:∀t k,Eqs t=some k→lr P t k)(Mw:∀f g,Sg f=some g→iQ P (f%1000))(hm:P.follows .mixedOrders=true) (hG:∀f g u x y,Sg f=some g→G f g=some u→u x=some y→Dc P f g x y):∀(m:Nat) f g x y,Sg f=some g→Fn P Eqs Sg An G m f g x=some y→Dc P f g x y
 |0,f,g,x,y,hs,hx=>by
  simp only[Fn]at hx
  split at hx
  ·rename_i u hu;exact hG f g u x y hs hu hx
  ·cases hx
 |m+1,f,g,x,y,hs,hx=>by
  simp only[Fn]at hx
  split at hx
  ·rename_i u hu;exact hG f g u x y hs hu hx
  ·exact JF ⟨Cn,fun f g x y h1 h2=>GI hX Cn Mw hm hG m f g x y h1 h2,hX,Mw⟩ hm hx
end Go.Vs
namespace Go.Vs
abbrev FT:=(f:FuncId)→(g:aL)→g.A→Option g.B
variable {P:Program} {Eqs:TypeId→Option K} {Sg:FuncId→Option aL} {R:Type}
def tM(p:Nat→Prop):Prop:=∃m,∀m',m≤m'→p m'
theorem tM.now{p:Nat→Prop}(h:∀m,p m):tM p:=⟨0,fun m _=>h m⟩
theorem tM.and{p q r:Nat→Prop}(h:tM p)(k:tM q)(hr:∀m,p m→q m→r m):tM r:=by obtain⟨a,ha⟩:=h;obtain⟨b,hb⟩:=k;exact⟨max a b,fun m hm=>hr m (ha m (by omega)) (hb m (by omega))⟩
theorem tM.imp{p r:Nat→Prop}(h:tM p)(hr:∀m,p m→r m):tM r:=by obtain⟨a,ha⟩:=h;exact⟨a,fun m hm=>hr m (ha m hm)⟩
def To(A:Nat→FT)(L:FT):Prop:=∀f g x y,L f g x=some y→tM fun m=>A m f g x=some y
def ToK{α:Type}(A:Nat→α→Option R)(L:α→Option R):Prop:=∀x y,L x=some y→tM fun m=>A m x=some y
def ToJ(A:Nat→(sh:Shape)→List Item→sh.T→Option R)(L:(sh:Shape)→List Item→sh.T→Option R):Prop:=∀sh k x y,L sh k x=some y→tM fun m=>A m sh k x=some y
theorem Pv(h:Heap)(id:Nat)(f:FuncId)(vs:List AV):(∀F F':FT,iL Sg F h id f vs some=iL Sg F' h id f vs some) ∨ ∃ff g x,(∀F F':FT,F ff g x=F' ff g x→iL Sg F h id f vs some=iL Sg F' h id f vs some)∧∀F:FT,F ff g x=none→iL Sg F h id f vs some=none:=by
 unfold iL
 split
 ·exact .inl fun _ _=>rfl
 rename_i g hg
 split
 ·exact .inl fun _ _=>rfl
 split
 ·split
  ·split
   ·rename_i x b hx hb hp;refine .inr ⟨_,g,(x,b),fun F F' e=>by rw[e],fun F e=>by rw[e];rfl⟩
   ·exact .inl fun _ _=>rfl
  ·split
   ·rename_i x b hx hb hp;refine .inr ⟨_,g,(x,b),fun F F' e=>by rw[e],fun F e=>by rw[e];rfl⟩
   ·exact .inl fun _ _=>rfl
 ·exact .inl fun _ _=>rfl
theorem TA{A:Nat→FT}{L:FT}(hA:To A L){h:Heap}{id:Nat}{f:FuncId}{vs:List AV}{e:bE}(he:iL Sg L h id f vs some=some e):tM fun m=>iL Sg (A m) h id f vs some=some e:=by
 rcases Pv (Sg:=Sg) h id f vs with k|⟨ff,g,x,k1,k2⟩
 ·exact .now fun m=>(k _ _).trans he
 ·cases hy:L ff g x with
  |none=>rw[k2 L hy]at he;cases he
  |some y=>exact(hA _ _ _ _ hy).imp fun m hm=>(k1 (A m) L (hm.trans hy.symm)).trans he
theorem GJ{A:Nat→FT}{L:FT}(hA:To A L){id:Nat}{h:Heap}{s:List (Nat×AV)}{o:Oper}{e:bE}(he:cM P Eqs Sg L id h s o some=some e):tM fun m=>cM P Eqs Sg (A m) id h s o some=some e:=by
 obtain⟨dst,op,type,pos,after,guard⟩:=o
 cases op with
 |call c =>
  obtain⟨callee,args,argTypes⟩:=c
  cases callee with
  |value f =>
   simp only[cM]at he
   split at he
   ·rename_i f' cap hf;refine(TA hA he).imp fun m hm=>?_;simp only[cM,hf];exact hm
   ·cases he
  |builtin bi=>cases bi<;>exact .now fun m=>he
  |invoke _ _=>exact .now fun m=>he
 |unOp u _ _=>cases u<;>exact .now fun m=>he
 |makeFunc fn _ _=>cases fn<;>exact .now fun m=>he
 |makeMap _ r=>cases r<;>exact .now fun m=>he
 |next _ b=>cases b<;>exact .now fun m=>he
 |_=>exact .now fun m=>he
theorem tM.all{p:Nat→Nat→Prop}:∀(n:Nat),(∀j,j<n→tM (p j))→tM fun m=>∀j,j<n→p j m
 |0,_=>.now fun m j hj=>absurd hj (Nat.not_lt_zero _)
 |n+1,h=>(tM.all n fun j hj=>h j (by omega)).and (h n (by omega)) fun m h1 h2 j hj=>by
  by_cases e:j=n
  ·subst e;exact h2
  ·exact h1 j (by omega)
theorem JG{h:Heap}{x:AV}{K:Nat→AV→Heap→Option R}{KL:AV→Heap→Option R}(hK:∀v h y,KL v h=some y→tM fun m=>K m v h=some y){r:R}(he:kK h x KL=some r):tM fun m=>kK h x (K m)=some r:=by
 unfold kK at he ⊢
 split at he
 ·rename_i id
  split at he
  ·rename_i kk vk p hg
   try simp only[hg]
   cases hp:p.2 with
   |nil =>simp only[hp,List.isEmpty_nil,cond_true]at he ⊢;exact hK _ _ _ he
   |cons c l =>simp only[hp,List.isEmpty_cons,cond_false]at he ⊢;have h1:=nF he;refine(tM.all _ fun j hj=>?_).imp fun m hm=>kM (by simp) hm;have h2:=h1 j hj;rw[List.getElem?_eq_getElem hj]at h2 ⊢;simp only[Option.bind_some]at h2 ⊢;exact hK _ _ _ h2
  ·cases he
 ·cases he
theorem Pw{h:Heap}{x:AV}{want:Bool}{K:Nat→AV→Option R}{KL:AV→Option R}(hK:∀v y,KL v=some y→tM fun m=>K m v=some y){r:R}(he:tU h x want KL=some r):tM fun m=>tU h x want (K m)=some r:=by
 unfold tU at he ⊢
 split at he
 ·exact hK _ _ he
 ·rename_i xs hv
  cases xj:xs.isEmpty with
  |true =>simp only[xj,cond_true]at he ⊢;have h1:=nF he;exact(tM.all _ fun j hj=>hK _ _ (h1 j hj)).imp fun m hm=>kM (by decide) hm
  |false =>simp only[xj,cond_false]at he ⊢;exact hK _ _ he
 ·cases he
theorem AE{A:Nat→FT}{L:FT}(hA:To A L){rid:Nat}{draw:Bool}{ops:Array Oper}{b:Array Nat}{K:Nat→St→Option R}{KL:St→Option R}(hK:ToK K KL) :
  ∀(l:List (Nat×Oper)) (st:St) (r:R),bA P Eqs Sg L rid draw ops b l st KL=some r→tM fun m=>bA P Eqs Sg (A m) rid draw ops b l st (K m)=some r
 |[],st,r,he=>hK st r (by simpa only[bA] using he)
 |(i,o)::l,st,r,he=>by
  have ih:=AE hA (rid:=rid) (draw:=draw) (ops:=ops) (b:=b) hK l;have run:∀st:St,(match (if draw then none else oo P (opId rid i) st o) with
    |some dX=>bA P Eqs Sg L rid draw ops b l dX KL
    |none=>match (if draw then none else tT o) with
    |some x=>kK st.heap (ρ st.tmps x) fun v h=>bA P Eqs Sg L rid draw ops b l (({ st with heap:=h }:St).put o.dst v) KL
    |none=>match (if draw then none else isNil P o) with
    |some (x,want)=>tU st.heap (ρ st.tmps x) want fun v=>bA P Eqs Sg L rid draw ops b l (st.put o.dst v) KL
    |none=>if draw then cM P Eqs Sg L (opId rid i) (gH (ahead rid (b.getD i 0) st.heap) (gy ops b i st.tmps o)) st.tmps o fun e =>
     if(gu true rid ops b i (b.getD i 0) (gD (gy ops b i st.tmps o) (ahead rid (b.getD i 0) st.heap) e)&&ln (gy ops b i st.tmps o) e)=true then
      bA P Eqs Sg L rid draw ops b l ({ st with heap:=match gD (gy ops b i st.tmps o) (ahead rid (b.getD i 0) st.heap) e with | .wr _ h=>h|e=>e.h st.heap }.put o.dst e.v) KL else none
     else cM P Eqs Sg L (opId rid i) st.heap st.tmps o fun e =>
     if gu false rid ops b i (2 ^ i-1) e then bA P Eqs Sg L rid draw ops b l ({ st with heap:=match e with | .wr _ h=>h|e=>e.h st.heap }.put o.dst e.v) KL else none)=some r →
    tM fun m=>(match (if draw then none else oo P (opId rid i) st o) with
    |some dX=>bA P Eqs Sg (A m) rid draw ops b l dX (K m)
    |none=>match (if draw then none else tT o) with
    |some x=>kK st.heap (ρ st.tmps x) fun v h=>bA P Eqs Sg (A m) rid draw ops b l (({ st with heap:=h }:St).put o.dst v) (K m)
    |none=>match (if draw then none else isNil P o) with
    |some (x,want)=>tU st.heap (ρ st.tmps x) want fun v=>bA P Eqs Sg (A m) rid draw ops b l (st.put o.dst v) (K m)
    |none=>if draw then cM P Eqs Sg (A m) (opId rid i) (gH (ahead rid (b.getD i 0) st.heap) (gy ops b i st.tmps o)) st.tmps o fun e =>
     if(gu true rid ops b i (b.getD i 0) (gD (gy ops b i st.tmps o) (ahead rid (b.getD i 0) st.heap) e)&&ln (gy ops b i st.tmps o) e)=true then
      bA P Eqs Sg (A m) rid draw ops b l ({ st with heap:=match gD (gy ops b i st.tmps o) (ahead rid (b.getD i 0) st.heap) e with | .wr _ h=>h|e=>e.h st.heap }.put o.dst e.v) (K m) else none
     else cM P Eqs Sg (A m) (opId rid i) st.heap st.tmps o fun e =>
     if gu false rid ops b i (2 ^ i-1) e then bA P Eqs Sg (A m) rid draw ops b l ({ st with heap:=match e with | .wr _ h=>h|e=>e.h st.heap }.put o.dst e.v) (K m) else none)=some r:=by
   intro st h
   split at h
   ·rename_i dX nE
    try simp only[nE]
    exact ih _ r h
   rename_i nE
   split at h
   ·rename_i x Dh
    try simp only[nE,Dh]
    exact JG (fun v h y hy=>ih _ y hy) h
   rename_i Dh
   split at h
   ·rename_i x want Zi
    try simp only[nE,Dh,Zi]
    exact Pw (fun v y hy=>ih _ y hy) h
   rename_i Zi
   try simp only[nE,Dh,Zi]
   cases draw with
   |true =>
    simp only[if_true]at h ⊢;rw[kY]at h;obtain⟨e,h1,h2⟩:=adp.1 h;by_cases hc:(gu true rid ops b i (b.getD i 0) (gD (gy ops b i st.tmps o) (ahead rid (b.getD i 0) st.heap) e)&&ln (gy ops b i st.tmps o) e)=true
    ·rw[if_pos hc]at h2;refine(GJ hA h1).and (ih _ r h2) fun m h3 h4=>?_;rw[kY,h3,Option.bind_some,if_pos hc];exact h4
    ·rw[if_neg hc]at h2;cases h2
   |false =>
    simp only[Bool.false_eq_true,if_false]at h ⊢;rw[kY]at h;obtain⟨e,h1,h2⟩:=adp.1 h;by_cases hc:gu false rid ops b i (2 ^ i-1) e=true
    ·rw[if_pos hc]at h2;refine(GJ hA h1).and (ih _ r h2) fun m h3 h4=>?_;rw[kY,h3,Option.bind_some,if_pos hc];exact h4
    ·rw[if_neg hc]at h2;cases h2
  simp only[bA]at he ⊢
  split at he
  ·rename_i hg
   try simp only[hg]
   exact run _ he
  ·rename_i j want hg
   try simp only[hg]
   split at he
   ·cases he
   ·rename_i d hd
    try simp only[hd]
    split at he
    ·rename_i t ht
     try simp only[ht]
     cases t<;>cases want<;>simp only[cond_true,cond_false,if_true,if_false,Bool.false_eq_true]at he ⊢<;>first|exact run _ he|exact ih _ r he
    ·rename_i ht
     try simp only[ht]
     exact ih _ r he
    ·cases he
theorem CI{A:Nat→FT}{L:FT}(hA:To A L){n rid:Nat}{ops:Array Oper}{draw:Bool}{K:Nat→St→Option R}{KL:St→Option R}(hK:ToK K KL){st:St}{r:R} (he:g9 P Eqs Sg L n rid ops draw st KL=some r):tM fun m=>g9 P Eqs Sg (A m) n rid ops draw st (K m)=some r:=by
 unfold g9 at he ⊢;by_cases hc:((ops.all fun o=>g8 n o)&&(!draw || (tS ops (if draw then Region.before ops else #[])&&(zB ops (if draw then Region.before ops else #[])&&b6 (ops.toList.filterMap (·.dst)))))&&decide (ops.size≤128))=true
 ·dsimp only at he ⊢
  rw[if_pos hc]at he;refine(AE hA hK _ _ r he).imp fun m hm=>?_;rw[if_pos hc];exact hm
 ·dsimp only at he
  rw[if_neg hc]at he;cases he
theorem gk{A:Nat→FT}{L:FT}(hA:To A L){n:Nat}{ann:Nat→Option Shape}{J:Nat→(sh:Shape)→List Item→sh.T→Option R}{JL:(sh:Shape)→List Item→sh.T→Option R}(hJ:ToJ J JL){ret:St→Option R} :
  ∀(fu:Nat) (items:List Item) (st:St) (r:R),az P Eqs Sg L n ann JL ret fu items st=some r→tM fun m=>az P Eqs Sg (A m) n ann (J m) ret fu items st=some r
 |0,items,st,r,he=>by cases items<;>simp only[az]at he<;>cases he
 |fu+1,[],st,r,he=>.now fun m=>by simpa only[az] using he
 |fu+1,it::ML,st,r,he=>by
  have ih:=gk hA (n:=n) (ann:=ann) hJ (ret:=ret) fu
  cases it with
  |inBlock id=>simp only[az]at he ⊢;exact ih _ _ _ he
  |inScope c=>simp only[az]at he ⊢;exact ih _ _ _ he
  |inLoop c =>
   simp only[az]at he ⊢
   split at he
   ·cases he
   ·rename_i sh hsh
    try simp only[hsh]
    split at he
    ·rename_i x hx
     try simp only[hx]
     exact hJ _ _ _ _ he
    ·cases he
  |code c =>
   cases c with
   |cond c x y =>
    simp only[az]at he ⊢
    split at he
    ·rename_i t ht
     try simp only[ht]
     cases t<;>simp only[cond_true,cond_false]at he ⊢<;>exact ih _ _ _ he
    ·cases he
   |exit id =>
    simp only[az]at he ⊢
    split at he
    ·rename_i k' hk
     try simp only[hk]
     exact ih _ _ _ he
    ·cases he
   |ret=>exact .now fun m=>by simpa only[az] using he
   |region id ops draw =>simp only[az]at he ⊢;exact CI hA (K:=fun m dX=>az P Eqs Sg (A m) n ann (J m) ret fu ML dX) (fun st y h=>ih ML st y h) he
   |skip=>simp only[az]at he ⊢;exact ih _ _ _ he
   |label l=>simp only[az]at he ⊢;exact ih _ _ _ he
   |seq x y=>simp only[az]at he ⊢;exact ih _ _ _ he
   |block id c=>simp only[az]at he ⊢;exact ih _ _ _ he
   |scope c=>simp only[az]at he ⊢;exact ih _ _ _ he
   |loop c=>simp only[az]at he ⊢;exact ih _ _ _ he
   |_=>simp only[az]at he;cases he
  |_=>simp only[az]at he;cases he
section
variable {An:FuncId→Nat→Option Shape} {G:(f:FuncId)→(g:aL)→Option (g.A→Option g.B)}
def WR(F F':FT):Prop:=∀f g x y,F f g x=some y→F' f g x=some y
theorem WR.to{F F':FT}(h:WR F F'):To (fun _=>F') F:=fun f g x y hy=>.now fun _=>h f g x y hy
theorem tM.get{p:Prop}(h:tM fun _=>p):p:=by obtain⟨m,hm⟩:=h;exact hm m (adg _)
theorem nG{F F':FT}(h:WR F F'){f:FuncId}{g:aL}{fn:Func}:∀(n n':Nat) (sh:Shape) (k:List Item) (x:sh.T) (y:g.B),n≤n'→ma P Eqs Sg An F f g fn n sh k x=some y→ma P Eqs Sg An F' f g fn n' sh k x=some y
 |0,_,_,_,_,_,_,hx=>by simp only[ma]at hx;cases hx
 |n+1,0,_,_,_,_,hn,_=>by omega
 |n+1,n'+1,sh,k,x,y,hn,hx=>by
  cases k with
  |nil=>simp only[ma]at hx;cases hx
  |cons it k =>
   cases it with
   |inLoop c =>simp only[ma]at hx ⊢;exact(gk h.to (J:=fun _=>ma P Eqs Sg An F' f g fn n') (JL:=ma P Eqs Sg An F f g fn n) (fun sh k x y hy=>.now fun _=>nG h n n' sh k x y (by omega) hy) _ _ _ _ hx).get
   |_=>simp only[ma]at hx;cases hx
theorem MM{F F':FT}(h:WR F F'){f:FuncId}{g:aL}{n n':Nat}{x:g.A}{y:g.B}(hn:n≤n')(hx:I5 P Eqs Sg An F f g n x=some y):I5 P Eqs Sg An F' f g n' x=some y:=by
 unfold I5 at hx ⊢
 split at hx
 ·cases hx
 ·rename_i fn c hb
  try simp only[hb]
  split at hx
  ·rename_i hc;simp only[if_pos hc];exact(gk h.to (J:=fun _=>ma P Eqs Sg An F' f g fn n') (JL:=ma P Eqs Sg An F f g fn n) (fun sh k x y hy=>.now fun _=>nG h n n' sh k x y hn hy) _ _ _ _ hx).get
  ·cases hx
theorem yR:∀m,WR (Fn P Eqs Sg An G m) (Fn P Eqs Sg An G (m+1))
 |0,f,g,x,y,hx=>by
  simp only[Fn]at hx ⊢
  split at hx
  ·rename_i u hu;(try simp only[hu]);exact hx
  ·cases hx
 |m+1,f,g,x,y,hx=>by
  rw[Fn]at hx ⊢
  split at hx
  ·rename_i u hu;(try simp only[hu]);exact hx
  ·rename_i hu
   try simp only[hu]
   exact MM (yR m) (Nat.le_succ m) hx
theorem yS{m m':Nat}(h:m≤m'):WR (Fn P Eqs Sg An G m) (Fn P Eqs Sg An G m'):=by
 induction h with
 |refl=>exact fun _ _ _ _ h=>h
 |step _ ih=>exact fun f g x y hx=>yR _ f g x y (ih f g x y hx)
variable (P Eqs Sg An G) in
open Classical in
noncomputable def Fix:FT:=fun f g x=>if h:∃m y,Fn P Eqs Sg An G m f g x=some y then some (Classical.choose (Classical.choose_spec h)) else none
theorem EK:To (Fn P Eqs Sg An G) (Fix P Eqs Sg An G):=fun f g x y hy=>by
 unfold Fix at hy
 split at hy
 ·rename_i h
  cases hy
  exact⟨Classical.choose h,fun m' hm=>yS hm _ _ _ _ (Classical.choose_spec (Classical.choose_spec h))⟩
 ·cases hy
theorem Px{m:Nat}{f:FuncId}{g:aL}{x:g.A}{y:g.B}(h:Fn P Eqs Sg An G m f g x=some y):Fix P Eqs Sg An G f g x=some y:=by
 have he:∃m y,Fn P Eqs Sg An G m f g x=some y:=⟨m,y,h⟩
 cases hy:Fix P Eqs Sg An G f g x with
 |none=>unfold Fix at hy;rw[dif_pos he]at hy;cases hy
 |some y' =>obtain⟨m1,h1⟩:=EK f g x y' hy;have h2:=h1 (max m m1) (by omega);have h3:=yS (show m≤max m m1 by omega) f g x y h;rw[h2]at h3;exact h3
variable (P Eqs Sg An G) in
open Classical in
noncomputable def Lp(f:FuncId)(g:aL)(fn:Func)(sh:Shape)(k:List Item)(x:sh.T):Option g.B :=if h:∃m y,ma P Eqs Sg An (Fn P Eqs Sg An G m) f g fn m sh k x=some y then some (Classical.choose (Classical.choose_spec h)) else none
theorem Py{f:FuncId}{g:aL}{fn:Func}:ToJ (fun m=>ma P Eqs Sg An (Fn P Eqs Sg An G m) f g fn m) (Lp P Eqs Sg An G f g fn):=fun sh k x y hy=>by
 unfold Lp at hy
 split at hy
 ·rename_i h
  cases hy
  exact⟨Classical.choose h,fun m' hm=>nG (yS hm) _ _ _ _ _ _ hm (Classical.choose_spec (Classical.choose_spec h))⟩
 ·cases hy
theorem Zr{m:Nat}{f:FuncId}{g:aL}{fn:Func}{sh:Shape}{k:List Item}{x:sh.T}{y:g.B}(h:ma P Eqs Sg An (Fn P Eqs Sg An G m) f g fn m sh k x=some y):Lp P Eqs Sg An G f g fn sh k x=some y:=by
 have he:∃m y,ma P Eqs Sg An (Fn P Eqs Sg An G m) f g fn m sh k x=some y:=⟨m,y,h⟩
 cases hy:Lp P Eqs Sg An G f g fn sh k x with
 |none=>unfold Lp at hy;rw[dif_pos he]at hy;cases hy
 |some y' =>obtain⟨m1,h1⟩:=Py sh k x y' hy;have h2:=h1 (max m m1) (by omega);have h3:=nG (yS (show m≤max m m1 by omega)) m (max m m1) sh k x y (by omega) h;exact h2.symm.trans h3
theorem KY{f:FuncId}{g:aL}{x:g.A}{y:g.B}{fn:Func}{c:Code}(hG:G f g=none)(hb:body P (f%1000)=some (fn,c))(hc:(decide (g.ps.length≤fn.ntmps)&&decide (g.bs.length≤8))=true) (h:az P Eqs Sg (Fix P Eqs Sg An G) fn.ntmps (An f) (Lp P Eqs Sg An G f g fn) (qg P g fn) fuel [.code c] (entry g x)=some y):Fix P Eqs Sg An G f g x=some y:=by obtain⟨m,hm⟩:=gk (EK (P:=P) (Eqs:=Eqs) (Sg:=Sg) (An:=An) (G:=G)) (Py (f:=f) (g:=g) (fn:=fn)) _ _ _ _ h;refine Px (m:=m+1) ?_;simp only[Fn,hG];unfold I5;simp only[hb,if_pos hc];exact hm m (adg _)
theorem Dp{f:FuncId}{g:aL}{x:g.A}{y:g.B}{u:g.A→Option g.B}(hG:G f g=some u)(h:u x=some y):Fix P Eqs Sg An G f g x=some y:=by refine Px (m:=0) ?_;simp only[Fn,hG];exact h
theorem Pz{f:FuncId}{g:aL}{fn:Func}{sh:Shape}{c:Code}{k:List Item}{x:sh.T}{y:g.B} (h:az P Eqs Sg (Fix P Eqs Sg An G) fn.ntmps (An f) (Lp P Eqs Sg An G f g fn) (qg P g fn) fuel (.code c::.inLoop c::k) (an sh x)=some y):Lp P Eqs Sg An G f g fn sh (.inLoop c::k) x=some y:=by obtain⟨m,hm⟩:=gk (EK (P:=P) (Eqs:=Eqs) (Sg:=Sg) (An:=An) (G:=G)) (Py (f:=f) (g:=g) (fn:=fn)) _ _ _ _ h;refine Zr (m:=m+1) ?_;simp only[ma];refine(gk (L:=Fn P Eqs Sg An G m) (WR.to (yR m)) (J:=fun _=>ma P Eqs Sg An (Fn P Eqs Sg An G (m+1)) f g fn m) (JL:=ma P Eqs Sg An (Fn P Eqs Sg An G m) f g fn m) (fun sh k x y hy=>.now fun _=>nG (yR m) m m sh k x y (adg _) hy) _ _ _ _ (hm m (adg _))).get
theorem yT(hX:∀f g u,Sg f=some g→g.x=some u→fE P (f%1000) u)(Cn:∀t k,Eqs t=some k→lr P t k)(Mw:∀f g,Sg f=some g→iQ P (f%1000))(hm:P.follows .mixedOrders=true) (hG:∀f g u x y,Sg f=some g→G f g=some u→u x=some y→Dc P f g x y) {f:FuncId} {g:aL} {x:g.A} {y:g.B} (hs:Sg f=some g) (h:Fix P Eqs Sg An G f g x=some y):Dc P f g x y:=by obtain⟨m,Tg⟩:=EK f g x y h;exact GI hX Cn Mw hm hG m f g x y hs (Tg m (adg _))
end
end Go.Vs
namespace Go.Vs
open Go.Proofs
abbrev ab:=((Int×Int)×Int)
abbrev ID:=(Int×Int)
abbrev ag:=(ID×((List ab)×(ByteArray×Int)))
abbrev ah:=(ID×(ByteArray×Int))
abbrev aj:=((List ag)×(List ah))
abbrev aw:=(ab×ab)
abbrev StateT:=(aj×(List aw))
abbrev pq:=(ID×ab)
abbrev aY:=(Int×(ID×(ID×(ID×(pq×(pq×(Bool×(ByteArray×Int))))))))
abbrev aQ:=((List ag)×((List ah)×((List aw)×Unit)))
abbrev lI{α:Type}(l:List α):Int:=((l.length:Nat):Int)
abbrev wI(n:Int):Int:=IntKind.wrap .i64 n
abbrev OI:ID:=(0,0)
abbrev OD:ab:=(OI,0)
abbrev OC:pq:=(OI,OD)
abbrev OB:ByteArray:=⟨#[]⟩
abbrev OS:StateT:=(([],[]),[])
abbrev OW:aQ:=([],([],([],())))
abbrev k13:K:=(.pair .str (.int .u64))
abbrev jn:K:=(.pair (.int .i64) (.int .i64))
abbrev k68:K:=(.pair .str (.pair (.int .i64) .bool))
abbrev bm:K:=(.pair jn (.int .i64))
abbrev k7:K:=(.pair (.int .i64) (.pair (.int .i64) (.pair .bool (.int .u8))))
abbrev dZ:K:=(.pair jn (.pair .str (.int .i64)))
abbrev PA:K:=(.pair jn bm)
abbrev cz:K:=(.pair bm bm)
abbrev dk:K:=(.pair jn (.pair (.sl bm) (.pair .str (.int .i64))))
abbrev dQ:K:=(.pair (.sl dk) (.sl dZ))
abbrev gX:K:=(.pair dQ (.sl cz))
abbrev qx:K:=(.pair (.int .i64) (.pair jn (.pair jn (.pair jn (.pair PA (.pair PA (.pair .bool (.pair .str (.int .i64)))))))))
abbrev kx:K:=(.one (.sl qx))
def oO(xs:List ag)(ys:List ah):Bool:=decide (xs.length≤50000000)&&(decide (ys.length≤50000000)&&xs.all fun v=>decide (v.2.1.length≤50000000))
def EL(h:Heap)(id:Nat):List AV→Option (Bool×bE)
 |[.agg [.bF a,.bF b]]=>match dL h (.row 52 dk) (.bF a),dL h (.row 118 dZ) (.bF b) with
  |some xs,some ys=>if a=b then none else some (oO xs ys,.new (.agg [.bF (id+128),.bF (id+129)]) [(id+128,.own (.row 52 dk) xs),(id+129,.own (.row 118 dZ) ys)])
  |_,_=>none
 |_=>none
abbrev ad8(a:List PK)(b:List RK):aL:={ ps:=a,bs:=[],rs:=b }
abbrev ad9:K:=.int .i64
def PB:=ad8 [.val gX,.val qx] [.val gX,.val ad9]
def GK:=ad8 [.val gX,.val gX] [.val .bool]
def pO:=ad8 [.val dQ,.val jn] [.val dk,.val .bool]
def AF:=ad8 [.val jn] [.val .bool]
def tl:=ad8 [.val dQ,.val bm] [.val jn,.val .bool]
def yk:=ad8 [.val dQ,.val jn] [.val dZ,.val .bool]
def GL:=ad8 [.val dQ,.val bm] [.val (.sl bm)]
def CJ:=ad8 [.val bm] [.val bm]
def qy:=ad8 [.val (.sl bm),.val bm] [.val ad9]
def MN:=ad8 [.val (.sl bm),.val bm] [.val bm,.val .bool]
def AG:=ad8 [.val dQ,.val dQ] [.val .bool]
def EM:=ad8 [.val .str] [.val .bool]
def MO:=ad8 [.val ad9] [.val .bool]
def PC:=ad8 [.val gX,.val kx] [.val gX,.val ad9]
def GM:=ad8 [.val dQ] [.own (.row 50 (.sl bm))]
def GN:=ad8 [.val dQ] [.val ad9]
def GO:=ad8 [.val gX,.val kx] [.val gX,.val ad9]
def GQ:=ad8 [.val gX,.val kx] [.val gX]
def PD:=ad8 [.val gX,.val kx] [.val gX]
def CL:=ad8 [.val dQ] [.agg [.own (.row 52 dk),.own (.row 118 dZ)]]
def EN:=ad8 [.val kx] [.val ad9]
def PE:=ad8 [.val qx] [.val ad9]
def GR:=ad8 [.val gX,.val (.sl qx)] [.val gX,.val ad9]
def MP:=ad8 [.val qx] [.val ad9]
def EO:=ad8 [.val dQ,.val dk] [.val dQ]
def oP:=ad8 [.val dQ,.val jn,.val jn] [.val dQ]
def PF:=ad8 [.val gX,.val qx] [.val gX,.val ad9]
def PH:=ad8 [.val gX,.val qx] [.val gX,.val ad9]
def PI:=ad8 [.val gX,.val qx] [.val gX,.val ad9]
def yl:=ad8 [.val gX,.val qx] [.val gX,.val ad9]
def AH:=ad8 [.val gX,.val qx] [.val gX,.val ad9]
def EP:=ad8 [.val (.sl cz),.val (.sl cz)] [.val .bool]
def MQ:=ad8 [.val dQ,.val bm] [.val bm,.val .bool]
def CM:=ad8 [.val dQ,.val jn] [.val ad9]
def rX:=ad8 [.val dQ] [.own (.row 3 ad9)]
def GS:=ad8 [.val (.sl bm),.val (.sl bm)] [.val .bool]
def ER:=ad8 [.val kx] [.val ad9]
def ES:=ad8 [.val dQ] [.own (.row 33 bm)]
def ET:=ad8 [.val dQ] [.agg [.own (.row 52 dk),.own (.row 118 dZ)]]
def GU:=ad8 [.val (.sl cz)] [.own (.row 54 cz)]
def MR:=ad8 [.val bm,.val bm] [.val ad9]
def GW:=ad8 [.val dQ] [.val ad9]
def PJ:=ad8 [.val qx] [.val qx,.val ad9]
def EU:aL:={ ps:=[.ref,.val qx],bs:=[.box 155 [.own (.row 52 dk),.own (.row 118 dZ),.val (.sl cz)]],rs:=[.val ad9] }
def MS:=ad8 [.val qx] [.val qx]
def MT:=ad8 [.val PA] [.val .bool]
def GX:=ad8 [.val jn,.val jn] [.val ad9]
def MU:=ad8 [.val gX,.val PA] [.val PA,.val ad9]
def ym:=ad8 [.val dQ,.val dZ] [.val dQ]
def yn:=ad8 [.val dQ,.val PA,.val bm] [.val dQ]
def yp:=ad8 [.val (.sl cz),.val cz] [.val (.sl cz)]
def MV:=ad8 [.val dQ,.val bm] [.val bm]
def MW:=ad8 [.val dQ,.val bm] [.val dQ]
def GY:=ad8 [.val dQ,.val bm,.val bm] [.val dQ]
def pP:=ad8 [.val (.sl bm)] [.own (.row 33 bm)]
def PL:=ad8 [.val dQ,.val bm] [.val bm,.val .bool]
def MX:=ad8 [.val (.sl dk)] [.own (.row 52 dk)]
def MY:=ad8 [.val (.sl dZ)] [.own (.row 118 dZ)]
def yq:=ad8 [.val (.sl bm)] [.own (.row 33 bm)]
def EV:=ad8 [.val dQ] [.val ad9,.val ad9,.val ad9,.val ad9]
def qz:=ad8 [.val jn] [.val .bool]
def CN:=ad8 [.val PA] [.val .bool]
def wi:=ad8 [.val .str] [.val .bool]
def GZ:=ad8 [.val ad9] [.val .bool]
def G1:aL:={ ps:=[.ref,.val dk],bs:=[.box 155 [.own (.row 52 dk),.own (.row 118 dZ),.val (.sl cz)]],rs:=[.val ad9] }
def PM:aL:={ ps:=[.ref,.val qx],bs:=[.box 155 [.own (.row 52 dk),.own (.row 118 dZ),.val (.sl cz)]],rs:=[.val ad9] }
def oQ:aL:={ ps:=[.ref,.val qx],bs:=[.box 155 [.own (.row 52 dk),.own (.row 118 dZ),.val (.sl cz)]],rs:=[.val ad9] }
def AI:aL:={ ps:=[.ref,.val qx],bs:=[.box 155 [.own (.row 52 dk),.own (.row 118 dZ),.val (.sl cz)]],rs:=[.val ad9] }
def yr:aL:={ ps:=[.ref,.val qx],bs:=[.box 155 [.own (.row 52 dk),.own (.row 118 dZ),.val (.sl cz)]],rs:=[.val ad9] }
def qA:aL:={ ps:=[.ref,.val qx],bs:=[.box 155 [.own (.row 52 dk),.own (.row 118 dZ),.val (.sl cz)]],rs:=[.val ad9] }
def PN:aL:={ ps:=[.ref,.val qx],bs:=[.box 155 [.own (.row 52 dk),.own (.row 118 dZ),.val (.sl cz)]],rs:=[.val ad9] }
def PO:=ad8 [.val bm] [.val .bool]
def G2:=ad8 [.val gX,.val bm] [.val bm]
def CO:=ad8 [.val dQ,.val jn,.val (.sl bm)] [.val dQ]
def xL:=ad8 [.val (.sl bm),.val bm,.val bm] [.own (.row 33 bm)]
def sD:=ad8 [.val (.sl cz),.val bm] [.val bm,.val .bool]
def xM:=ad8 [.val (.sl bm),.val bm] [.own (.row 33 bm)]
def G3:=ad8 [.val (.sl bm),.val bm,.val bm] [.own (.row 33 bm)]
def G4:=ad8 [.val (.sl bm),.val bm] [.val bm,.val .bool]
def G5:=ad8 [.val bm] [.val .bool]
def pw:aL:={ ps:=[.ref,.val jn],bs:=[.box 155 [.own (.row 52 dk),.own (.row 118 dZ),.val (.sl cz)]],rs:=[.val ad9,.val .bool] }
def Vd:aL:={ ps:=[],bs:=[],rs:=[],x:=some (Oi 52 dk) }
def Ve:aL:={ ps:=[],bs:=[],rs:=[],x:=some (SS 52 dk) }
def xN:aL:={ ps:=[.ref,.val jn],bs:=[.box 155 [.own (.row 52 dk),.own (.row 118 dZ),.val (.sl cz)]],rs:=[.val ad9] }
def AJ:=ad8 [.val jn] [.val bm,.val bm]
def G6:=ad8 [.val gX,.val PA] [.val PA,.val ad9]
def AK:=ad8 [.val (.sl bm),.val bm,.val bm] [.own (.row 33 bm)]
def AL:=ad8 [.val dQ] [.val .bool]
def mw:aL:={ ps:=[.ref,.val jn],bs:=[.box 155 [.own (.row 52 dk),.own (.row 118 dZ),.val (.sl cz)]],rs:=[.val ad9,.val .bool] }
def AM:aL:={ ps:=[.ref,.val bm,.val bm],bs:=[.box 155 [.own (.row 52 dk),.own (.row 118 dZ),.val (.sl cz)]],rs:=[] }
def AO:aL:={ ps:=[.ref,.val bm],bs:=[.box 155 [.own (.row 52 dk),.own (.row 118 dZ),.val (.sl cz)]],rs:=[.val bm] }
def lL:aL:={ ps:=[.ref,.val bm],bs:=[.box 155 [.own (.row 52 dk),.own (.row 118 dZ),.val (.sl cz)]],rs:=[.eu 0 [(0,5,0)]] }
def G7:=ad8 [.val (.sl bm),.val bm] [.own (.row 33 bm)]
def Vf:aL:={ ps:=[],bs:=[],rs:=[],x:=some (SS 118 dZ) }
def sE:=ad8 [.val (.sl bm),.val bm,.val bm] [.own (.row 33 bm)]
def nH:=ad8 [.val bm] [.val bm]
def qB:=ad8 [.val (.sl bm)] [.own (.row 33 bm)]
def G8:aL:={ ps:=[.ref,.val qx],bs:=[.box 155 [.own (.row 52 dk),.own (.row 118 dZ),.val (.sl cz)]],rs:=[.eu 0 [(0,5,3),(1,4,2)],.eu 0 [(0,5,4),(1,4,3)]] }
def Dq:=ad8 [.val dk,.val jn] [.val ad9]
def AP:=ad8 [.val jn,.val jn] [.val ad9]
def Vg:aL:={ ps:=[],bs:=[],rs:=[],x:=some (Oi 118 dZ) }
def G9:=ad8 [.val dQ,.val jn] [.val dk,.val .bool]
def xO:=ad8 [.val gX,.val bm] [.val bm]
def uI:=ad8 [.val (.sl bm),.val bm] [.val .bool]
def lM:=ad8 [.val (.sl bm),.val bm] [.val ad9]
def nI:=ad8 [.val (.sl (.sl bm))] [.own (.row 33 bm)]
def Hc:=ad8 [.val dQ] [.val ad9]
def Dt:=ad8 [.val dZ,.val jn] [.val ad9]
def Hd:=ad8 [.val (.sl cz),.val cz] [.own (.row 54 cz)]
def Du:=ad8 [.val (.sl bm),.val bm] [.val bm,.val .bool]
def Dv:=ad8 [.val bm,.val bm] [.val ad9]
def nJ:=ad8 [.val (.sl (.sl bm))] [.own (.row 33 bm)]
def uJ:=ad8 [.val (.sl ad9)] [.val ad9]
def AQ:=ad8 [.val ad9,.val ad9] [.val ad9]
def He:=ad8 [.val dk] [.val jn]
def uK:=ad8 [.val dQ,.val bm] [.val jn,.val .bool]
def Hf:=ad8 [.val (.sl cz),.val bm] [.val bm,.val .bool]
def Hg:=ad8 [.val dQ] [.val ad9,.val ad9,.val ad9,.val ad9]
def Dx:=ad8 [.val cz,.val bm] [.val ad9]
def Vh:aL:={ ps:=[],bs:=[],rs:=[],x:=some (Oi 54 cz) }
def AR:=ad8 [.val (.sl bm),.val bm,.val ad9] [.val bm,.val .bool]
def Vi:aL:={ ps:=[],bs:=[],rs:=[],x:=some (Oj 33 bm) }
def AS:=ad8 [.val ad9] [.val .bool]
def Hh:aL:={ ps:=[.val cz,.ref],bs:=[.box 33 [.val ad9,.val ad9,.val ad9]],rs:=[.val .bool] }
def Hi:=ad8 [.val dk] [.val .bool]
def xQ:=ad8 [.val dQ] [.own (.row 50 (.sl bm))]
def xR:=ad8 [.val dQ] [.val ad9]
def uL:=ad8 [.val dQ] [.own (.row 33 bm)]
def Vj:=ad8 [.val dQ] [.own (.row 28 (.sl jn))]
def Dy:=ad8 [.val dQ,.val bm] [.val bm,.val .bool]
def gQ:=ad8 [.val dQ] [.own (.row 3 ad9)]
def xS:=ad8 [.val dQ,.val bm] [.val bm,.val .bool]
def Hj:aL:={ ps:=[.own,.val ad9,.val ad9],bs:=[.own (.row 3 ad9)],rs:=[] }
def qC:aL:={ ps:=[.own,.val ad9],bs:=[.own (.row 3 ad9)],rs:=[.val ad9] }
def Hk:=ad8 [.val (.sl bm),.val bm] [.val bm,.val .bool]
def iV:=ad8 [.val (.sl dk),.val jn,.FH 207 0] [.val ad9,.val .bool]
def iW:=ad8 [.val (.sl dZ),.val jn,.FH 214 0] [.val ad9,.val .bool]
def j8:=ad8 [.val (.sl bm),.FH 195 0] [.val bm]
def j9:=ad8 [.val (.sl dk),.FH 109 0,.val jn] [.val dk,.val .bool]
def iX:=ad8 [.val (.sl cz),.val bm,.FH 232 0] [.val ad9,.val .bool]
def iY:aL:={ ps:=[.val (.sl cz),.FH 245 1],bs:=[.box 33 [.val bm]],rs:=[.val ad9] }
def kb:=ad8 [.val (.sl dk),.FH 239 0] [.val ad9]
def Hl:aL:={ ps:=[],bs:=[],rs:=[],x:=some EL }
def PQ:=ad8 [] []
abbrev SD:K:=(.pair kx jn)
abbrev IW:K:=(.pair gX (.pair ad9 (.sl kx)))
abbrev bS:=(StateT×(Int×((List (List aY))×Unit)))
abbrev SF:=((List aY)×ID)
abbrev Q41:=(((List (List aY))×(Int×Unit))×(bS×Unit))
abbrev Q42:=((StateT×Unit)×(bS×Unit))
abbrev Q0:=((Bool×Unit)×Unit)
abbrev Q1:=((StateT×(Int×Unit))×Unit)
abbrev Q2:=((Int×Unit)×Unit)
abbrev Q3:=(((List aY)×Unit)×Unit)
abbrev Q4:=((StateT×Unit)×Unit)
abbrev Q5:=((aj×Unit)×Unit)
abbrev Q6:=(((List ab)×Unit)×Unit)
abbrev Q7:=((ag×(Bool×Unit))×Unit)
abbrev Q8:=(List aY)
abbrev Q9:=((Int×Unit)×(bS×Unit))
abbrev Q10:=((ah×(Bool×Unit))×Unit)
abbrev EW:=((ab×Unit)×Unit)
abbrev KZ:=((ab×(Bool×Unit))×Unit)
abbrev SH:=((ID×(Bool×Unit))×Unit)
abbrev JH:=((Int×(Bool×Unit))×(aQ×Unit))
abbrev Yn:=((StateT×(aY×Unit))×Unit)
abbrev Yo:=((StateT×((List aY)×Unit))×Unit)
abbrev Q17:=(((List (List aY))×Unit)×Unit)
abbrev TB:=(((List aw)×Unit)×Unit)
abbrev PR:=((Int×Unit)×(aQ×Unit))
abbrev TC:=((aj×(ab×Unit))×Unit)
abbrev TD:=(((List ab)×(ab×Unit))×Unit)
abbrev Vk:=((aY×Unit)×(aQ×Unit))
abbrev Q23:=((StateT×Unit)×((List (List aY))×Unit))
abbrev Q24:=(((List aY)×(Int×Unit))×Unit)
abbrev Q25:=(((List (List ab))×Unit)×Unit)
abbrev Q26:=((((List ag)×((List ah)×Unit))×Unit)×Unit)
abbrev Q27:=((pq×Unit)×Unit)
abbrev Yp:=((Int×(Int×Unit))×(bS×Unit))
abbrev Q29:=((StateT×((List (List aY))×Unit))×Unit)
abbrev Q30:=((aj×(ID×Unit))×Unit)
abbrev Zs:=(((Option ((Fin 1)×Nat))×Unit)×(aQ×Unit))
abbrev Q32:=(Unit×(bS×Unit))
abbrev Q33:=((ab×(ab×Unit))×Unit)
abbrev Q34:=(((List ab)×(ab×(ab×Unit)))×Unit)
abbrev Q35:=((Int×Unit)×((List Int)×Unit))
abbrev Yq:=((StateT×(Int×Unit))×(bS×Unit))
abbrev Q37:=(((List Bool)×Unit)×((List (List aY))×Unit))
abbrev Q38:=((Bool×(Int×Unit))×(((StateT×Unit)×((aY×Unit)×(aQ×(((List ag)×((List ah)×Unit))×Unit))))×Unit))
abbrev Q39:=((Int×Unit)×((aQ×((ab×Unit)×((ab×Unit)×((ab×Unit)×Unit))))×Unit))
def WS(_:Heap)(id:Nat):List AV→Option (Bool×bE)
 |[]=>some (true,.new (.ref (id+128) 0 0 0) [(id+128,.box 100 (enc IW (kC IW)))])
 |_=>none
def JI(h:Heap)(_:Nat):List AV→Option (Bool×bE)
 |[.ref i 0 0 0]=>match tP h i 100 with
  |some cs=>match c8 IW cs with
   |some x=>some (true,.val (.int .i64 x.2.1))
   |none=>none
  |none=>none
 |_=>none
def PS(h:Heap)(id:Nat):List AV→Option (Bool×bE)
 |[.ref i 0 0 0]=>match tP h i 100 with
  |some cs=>match c8 IW cs with
   |some x=>some (true,.new (.ref (id+128) 0 0 0) [(id+128,.box 100 (enc IW x))])
   |none=>none
  |none=>none
 |_=>none
def AT:=ad8 [.val gX,.val (.sl kx)] [.val gX]
def sF:=ad8 [.val gX,.val (.sl kx)] [.val gX]
def Hm:=ad8 [] [.val .bool]
def xT:aL:={ ps:=[.ref,.val kx],bs:=[.box 100 [.val gX,.val ad9,.val (.sl kx)]],rs:=[.val ad9,.val ad9] }
def Dz:=ad8 [.val ad9] [.val kx]
def xU:aL:={ ps:=[.ref,.val ad9],bs:=[.box 100 [.val gX,.val ad9,.val (.sl kx)]],rs:=[.val ad9] }
def my:aL:={ ps:=[.ref],bs:=[.box 100 [.val gX,.val ad9,.val (.sl kx)]],rs:=[.val ad9] }
def Vl:aL:={ ps:=[],bs:=[],rs:=[],x:=some JI }
def xV:=ad8 [.val kx] [.val kx]
def AU:aL:={ ps:=[.ref,.val ad9],bs:=[.box 100 [.val gX,.val ad9,.val (.sl kx)]],rs:=[.val gX,.val ad9] }
def sG:aL:={ ps:=[.ref,.val ad9],bs:=[.box 100 [.val gX,.val ad9,.val (.sl kx)]],rs:=[.val (.sl kx),.val ad9] }
def uM:=ad8 [.val (.sl kx),.val (.sl kx)] [.val .bool]
def DA:aL:={ ps:=[.ref],bs:=[.box 100 [.val gX,.val ad9,.val (.sl kx)]],rs:=[.val gX] }
def DB:aL:={ ps:=[.ref,.val kx],bs:=[.box 76 [.val gX,.val ad9,.val (.sl kx)]],rs:=[.val ad9,.val ad9] }
def DC:aL:={ ps:=[.ref,.val ad9],bs:=[.box 76 [.val gX,.val ad9,.val (.sl kx)]],rs:=[.val ad9] }
def sH:aL:={ ps:=[.ref],bs:=[.box 76 [.val gX,.val ad9,.val (.sl kx)]],rs:=[.val ad9] }
def AW:aL:={ ps:=[.ref,.val ad9],bs:=[.box 76 [.val gX,.val ad9,.val (.sl kx)]],rs:=[.val gX,.val ad9] }
def DD:aL:={ ps:=[.ref,.val ad9],bs:=[.box 76 [.val gX,.val ad9,.val (.sl kx)]],rs:=[.val (.sl kx),.val ad9] }
def DE:aL:={ ps:=[.ref],bs:=[.box 76 [.val gX,.val ad9,.val (.sl kx)]],rs:=[.val gX] }
def Ho:=ad8 [.val gX,.val kx] []
def DF:=ad8 [.val (.sl qx)] [.val (.sl qx)]
def xW:=ad8 [.val kx,.val kx] [.val .bool]
def DG:aL:={ ps:=[.ref,.val ad9],bs:=[.box 76 [.val gX,.val ad9,.val (.sl kx)]],rs:=[.val .bool] }
def kc:=ad8 [.val gX,.val (.sl kx),.FH 61 0] [.val gX]
def Vm:aL:={ ps:=[],bs:=[],rs:=[],x:=some WS }
def MZ:=ad8 [] []
def M0:=ad8 [] []
def Vn:aL:={ ps:=[],bs:=[],rs:=[],x:=some PS }
def uN:=ad8 [.val (.sl SD),.val ad9] [.val .bool]
def PT:=ad8 [] []
def M1:=ad8 [] []
def sgs:List (Nat×aL):=[(45,PB),(22,GK),(79,pO),(87,AF),(124,tl),(92,yk),(192,GL),(121,CJ),(144,qy),(148,MN),(55,AG),(91,EM),(90,MO),(63,PC),(164,GM),(165,GN),(49,GO),(102,GQ),(64,PD),(21,CL),(69,EN),(104,PE),(103,GR),(46,MP),(80,EO),(81,oP),(82,PF),(83,PH),(84,PI),(85,yl),(86,AH),(65,EP),(216,MQ),(217,CM),(193,rX),(98,GS),(66,ER),(191,ES),(96,ET),(97,GU),(71,MR),(107,GW),(132,PJ),(131,EU),(88,MS),(89,MT),(105,GX),(114,MU),(115,ym),(116,yn),(117,yp),(118,MV),(119,MW),(120,GY),(122,pP),(234,PL),(127,MX),(128,MY),(110,yq),(136,EV),(159,qz),(160,CN),(161,wi),(162,GZ),(152,G1),(153,PM),(154,oQ),(155,AI),(156,yr),(157,qA),(158,PN),(123,PO),(143,G2),(145,CO),(146,xL),(147,sD),(126,xM),(149,G3),(248,G4),(190,G5),(175,pw),(176,Vd),(177,Ve),(178,xN),(179,AJ),(180,G6),(181,AK),(172,AL),(182,mw),(183,AM),(184,AO),(185,lL),(141,G7),(186,Vf),(187,sE),(188,nH),(169,qB),(189,G8),(207,Dq),(208,AP),(211,Vg),(74,G9),(212,xO),(166,uI),(168,lM),(170,nI),(204,Hc),(214,Dt),(215,Hd),(140,Du),(195,Dv),(196,nJ),(218,uJ),(219,AQ),(109,He),(139,uK),(230,Hf),(226,Hg),(232,Dx),(233,Vh),(167,AR),(220,Vi),(235,AS),(245,Hh),(239,Hi),(240,xQ),(241,xR),(249,uL),(251,Vj),(255,Dy),(256,gQ),(258,xS),(259,Hj),(260,qC),(261,Hk),(208206,iV),(215213,iW),(196194,j8),(110108,j9),(233231,iX),(246244,iY),(240238,kb),(500096,Hl),(900025,PQ),(18,AT),(20,sF),(23,Hm),(25,xT),(26,Dz),(27,xU),(28,my),(29,Vl),(30,xV),(31,AU),(32,sG),(33,uM),(34,DA),(36,DB),(37,DC),(38,sH),(39,AW),(40,DD),(41,DE),(61,Ho),(67,DF),(68,xW),(70,DG),(62060,kc),(24,Vm),(2514003,MZ),(3537003,M0),(35,Vn),(7,uN),(900022,PT),(2769003,M1)]
def Sg(f:FuncId):Option aL:=(sgs.find? (fun p=>p.1==f)).map (fun p=>p.2)
def eqs:List (Nat×K):=[(31,jn),(33,bm),(35,PA),(37,qx),(118,dZ),(54,cz)]
def Eqs(t:TypeId):Option K:=(eqs.find? (fun p=>p.1==t)).map (fun p=>p.2)
def AX:Shape:=⟨[(6,.int .i64)],[(.slot 2,20000,.box 41 [.val dQ]),(.slot 3,20001,.box 31 [.val jn]),(.slot 4,20002,.box 52 [.val ad9,.val ad9,.own (.row 33 bm),.val .str,.val ad9])],[],[]⟩
def AY:Shape:=⟨[(6,.int .i64)],[(.slot 2,20000,.box 41 [.val dQ]),(.slot 3,20001,.box 33 [.val bm]),(.slot 4,20002,.box 31 [.val jn])],[],[]⟩
def AZ:Shape:=⟨[(6,.int .i64)],[(.slot 2,20000,.box 41 [.val dQ]),(.slot 3,20001,.box 31 [.val jn]),(.slot 4,20002,.box 118 [.val dZ])],[],[]⟩
def A1:Shape:=⟨[],[(.slot 2,20000,.box 41 [.val dQ]),(.slot 3,20001,.box 33 [.val bm]),(.slot 6,20002,.box 33 [.val bm])],[(5,31000,(.row 33 bm))],[]⟩
def A2:Shape:=⟨[(0,.sl bm),(5,.int .i64)],[(.slot 3,20000,.box 33 [.val bm])],[],[]⟩
def A3:Shape:=⟨[(5,.int .i64)],[(.slot 2,20000,.box 41 [.val dQ]),(.slot 3,20001,.box 41 [.val dQ])],[],[]⟩
def A4:Shape:=⟨[(9,.int .i64)],[(.slot 2,20000,.box 41 [.val dQ]),(.slot 3,20001,.box 41 [.val dQ])],[],[]⟩
def A5:Shape:=⟨[(0,.str),(3,.int .i64)],[],[],[]⟩
def wj:Shape:=⟨[(6,.int .i64)],[(.slot 1,20000,.box 41 [.val dQ])],[(3,31000,(.row 50 (.sl bm))),(4,31001,(.row 33 bm)),(5,31002,(.row 33 bm))],[]⟩
def wm:Shape:=⟨[(4,.int .i64),(5,.int .i64)],[],[(3,31000,(.row 3 ad9))],[]⟩
def A6:Shape:=⟨[(7,.int .i64)],[(.slot 2,20000,.box 44 [.val gX]),(.slot 3,20001,.box 27 [.val kx]),(.slot 4,20002,.box 44 [.own (.row 52 dk),.own (.row 118 dZ),.own (.row 54 cz)])],[],[]⟩
def A7:Shape:=⟨[(4,.int .i64)],[(.slot 1,20000,.box 41 [.val dQ]),(.slot 2,20001,.box 41 [.own (.row 52 dk),.own (.row 118 dZ)]),(.slot 3,20002,.box 41 [.own (.row 52 dk),.own (.row 118 dZ)])],[],[]⟩
def A8:Shape:=⟨[(3,.int .i64)],[(.slot 1,20000,.box 27 [.val kx])],[],[]⟩
def A9:Shape:=⟨[(18,.sl qx),(19,.int .i64),(20,.int .i64)],[(.slot 4,20000,.box 44 [.own (.row 52 dk),.own (.row 118 dZ),.own (.row 54 cz)]),(.slot 6,20001,.box 155 [.own (.row 52 dk),.own (.row 118 dZ),.val (.sl cz)])],[],[]⟩
def tn:Shape:=⟨[(6,.bool),(7,.int .i64)],[(.slot 2,20000,.box 41 [.val dQ]),(.slot 3,20001,.box 52 [.val dk]),(.slot 4,20002,.box 41 [.own (.row 52 dk),.own (.row 118 dZ)]),(.slot 5,20003,.box 41 [.own (.row 52 dk),.val (.sl dZ)])],[],[]⟩
def wo:Shape:=⟨[(8,.int .i64)],[(.slot 3,20000,.box 41 [.val dQ]),(.slot 4,20001,.box 31 [.val jn]),(.slot 5,20002,.box 31 [.val jn]),(.slot 6,20003,.box 41 [.own (.row 52 dk),.own (.row 118 dZ)]),(.slot 7,20004,.box 41 [.own (.row 52 dk),.own (.row 118 dZ)])],[],[]⟩
def wq:Shape:=⟨[(9,.int .i64)],[(.slot 3,20000,.box 41 [.val dQ]),(.slot 5,20001,.box 31 [.val jn]),(.slot 6,20002,.box 41 [.own (.row 52 dk),.own (.row 118 dZ)]),(.slot 7,20003,.box 41 [.own (.row 52 dk),.own (.row 118 dZ)])],[],[]⟩
def lN:Shape:=⟨[(12,.sl cz),(13,.int .i64)],[(.slot 4,20000,.box 44 [.own (.row 52 dk),.own (.row 118 dZ),.own (.row 54 cz)]),(.slot 8,20001,.box 33 [.val bm]),(.slot 9,20002,.box 33 [.val bm]),(.slot 10,20003,.box 33 [.val bm]),(.slot 11,20004,.box 41 [.val dQ])],[],[]⟩
def qD:Shape:=⟨[(7,.bool),(8,.int .i64)],[(.slot 2,20000,.box 44 [.val gX]),(.slot 3,20001,.box 37 [.val qx]),(.slot 4,20002,.box 44 [.own (.row 52 dk),.own (.row 118 dZ),.own (.row 54 cz)]),(.slot 6,20003,.box 41 [.own (.row 52 dk),.own (.row 118 dZ)])],[],[]⟩
def qE:Shape:=⟨[(7,.bool),(9,.int .i64)],[(.slot 2,20000,.box 44 [.val gX]),(.slot 3,20001,.box 37 [.val qx]),(.slot 4,20002,.box 44 [.own (.row 52 dk),.own (.row 118 dZ),.own (.row 54 cz)]),(.slot 6,20003,.box 41 [.own (.row 52 dk),.own (.row 118 dZ)])],[],[]⟩
def Ba:Shape:=⟨[(0,.sl cz),(1,.sl cz),(5,.int .i64)],[],[],[]⟩
def Bb:Shape:=⟨[(5,.int .i64)],[(.slot 2,20000,.box 41 [.val dQ]),(.slot 3,20001,.box 31 [.val jn])],[],[]⟩
def Bc:Shape:=⟨[(4,.int .i64)],[(.slot 1,20000,.box 41 [.val dQ])],[(3,31000,(.row 3 ad9))],[]⟩
def wu:Shape:=⟨[(5,.int .i64)],[(.slot 1,20000,.box 41 [.val dQ])],[(3,31000,(.row 3 ad9))],[]⟩
def qF:Shape:=⟨[(5,.int .i64),(6,.int .i64)],[(.slot 1,20000,.box 41 [.val dQ])],[(3,31000,(.row 3 ad9))],[]⟩
def Be:Shape:=⟨[(0,.sl bm),(1,.sl bm),(5,.int .i64)],[],[],[]⟩
def Bf:Shape:=⟨[(17,.sl qx),(18,.int .i64),(19,.int .i64)],[],[],[]⟩
def Bg:Shape:=⟨[(4,.int .i64)],[(.slot 1,20000,.box 41 [.val dQ])],[(3,31000,(.row 33 bm))],[]⟩
def Bh:Shape:=⟨[(14,.int .i64),(15,.int .i64)],[(.slot 2,20000,.box 41 [.own (.row 52 dk),.own (.row 118 dZ)]),(.slot 3,20001,.box 41 [.own (.row 52 dk),.own (.row 118 dZ)])],[],[]⟩
def tp:Shape:=⟨[(6,.bool),(7,.int .i64)],[(.slot 2,20000,.box 41 [.val dQ]),(.slot 3,20001,.box 118 [.val dZ]),(.slot 4,20002,.box 41 [.own (.row 52 dk),.own (.row 118 dZ)]),(.slot 5,20003,.box 41 [.val (.sl dk),.own (.row 118 dZ)])],[],[]⟩
def ky:Shape:=⟨[(0,.sl cz),(8,.bool),(9,.int .i64)],[(.slot 3,20000,.box 54 [.val cz])],[(7,31000,(.row 54 cz))],[]⟩
def wx:Shape:=⟨[(0,.sl bm),(3,.int .i64),(4,.int .i64)],[],[],[]⟩
def Bi:Shape:=⟨[(0,.sl bm),(3,.int .i64),(6,.int .i64)],[],[(5,31000,(.row 33 bm))],[]⟩
def tq:Shape:=⟨[(6,.int .i64),(7,.int .i64)],[(.slot 1,20000,.box 41 [.val dQ])],[],[]⟩
def wy:Shape:=⟨[(0,.str)],[],[(6,31000,.nc)],[]⟩
def lO:Shape:=⟨[(48,.int .i64),(49,.int .i64)],[(.slot 0,1000,.box 155 [.own (.row 52 dk),.own (.row 118 dZ),.val (.sl cz)]),(.slot 5,20001,.box 44 [.val gX]),(.slot 7,20002,.box 33 [.val bm])],[(9,31000,(.row 33 bm)),(47,31001,(.row 35 PA))],[]⟩
def EX:Shape:=⟨[(5,.int .i64),(32,.int .i64),(33,.int .i64)],[(.slot 0,1000,.box 155 [.own (.row 52 dk),.own (.row 118 dZ),.val (.sl cz)]),(.slot 7,20001,.box 33 [.val bm]),(.slot 8,20002,.box 33 [.val bm])],[(31,31000,(.row 33 bm))],[]⟩
def wz:Shape:=⟨[(5,.int .i64),(47,.int .i64),(48,.int .i64)],[(.slot 0,1000,.box 155 [.own (.row 52 dk),.own (.row 118 dZ),.val (.sl cz)])],[(46,31000,(.row 33 bm))],[]⟩
def mS:Shape:=⟨[(113,.int .i64)],[(.slot 0,1000,.box 155 [.own (.row 52 dk),.own (.row 118 dZ),.val (.sl cz)]),(.slot 8,20001,.box 33 [.val bm]),(.slot 9,20002,.box 33 [.val bm]),(.slot 10,20003,.box 33 [.val bm])],[],[]⟩
def Bj:Shape:=⟨[(5,.int .i64)],[(.slot 2,20000,.box 44 [.val gX]),(.slot 3,20001,.box 33 [.val bm]),(.slot 4,20002,.box 33 [.val bm])],[],[]⟩
def wA:Shape:=⟨[(2,.sl bm),(8,.int .i64)],[(.slot 4,20000,.box 31 [.val jn]),(.slot 6,20001,.box 41 [.own (.row 52 dk),.own (.row 118 dZ)]),(.slot 7,20002,.box 41 [.own (.row 52 dk),.own (.row 118 dZ)])],[],[]⟩
def rv:Shape:=⟨[(0,.sl bm),(7,.int .i64),(9,.int .i64)],[(.slot 5,20000,.box 33 [.val bm])],[(8,31000,(.row 33 bm))],[]⟩
def uO:Shape:=⟨[(0,.sl cz),(6,.int .i64)],[(.slot 3,20000,.box 33 [.val bm]),(.slot 4,20001,.box 33 [.val bm])],[],[]⟩
def ry:Shape:=⟨[(0,.sl bm),(6,.int .i64)],[(.slot 3,20000,.box 33 [.val bm])],[(5,31000,(.row 33 bm))],[]⟩
def yU:Shape:=⟨[(7,.int .i64)],[(.slot 0,1000,.box 155 [.own (.row 52 dk),.own (.row 118 dZ),.val (.sl cz)]),(.slot 3,20001,.box 33 [.val bm]),(.slot 4,20002,.box 33 [.val bm]),(.slot 5,20003,.box 33 [.val bm])],[],[]⟩
def uP:Shape:=⟨[(12,.int .i64),(13,.int .i64)],[(.slot 0,1000,.box 155 [.own (.row 52 dk),.own (.row 118 dZ),.val (.sl cz)]),(.slot 3,20001,.box 33 [.val bm])],[],[]⟩
def uQ:Shape:=⟨[(12,.int .i64),(13,.int .i64)],[(.slot 2,20000,.box 44 [.val gX]),(.slot 3,20001,.box 33 [.val bm]),(.slot 4,20002,.box 33 [.val bm])],[],[]⟩
def uR:Shape:=⟨[(0,.sl bm),(7,.int .i64),(8,.int .i64)],[(.slot 3,20000,.box 33 [.val bm])],[],[]⟩
def uS:Shape:=⟨[(0,.sl (.sl bm)),(3,.int .i64),(9,.sl (.sl bm)),(10,.int .i64),(11,.int .i64)],[],[],[]⟩
def uT:Shape:=⟨[(25,.sl (.sl bm)),(26,.int .i64),(27,.int .i64)],[],[(6,31000,(.row 33 bm))],[]⟩
def yV:Shape:=⟨[(3,.int .i64),(6,.sl ad9),(7,.int .i64),(8,.int .i64)],[],[],[]⟩
def uU:Shape:=⟨[(9,.sl dk),(10,.int .i64),(11,.int .i64)],[(.slot 3,20000,.box 33 [.val bm]),(.slot 4,20001,.box 31 [.val jn])],[],[]⟩
def uV:Shape:=⟨[(8,.sl dZ),(9,.int .i64),(10,.int .i64)],[],[(3,31000,(.row 33 bm))],[]⟩
def rz:Shape:=⟨[(18,.sl dk),(19,.int .i64),(20,.int .i64)],[],[(3,31000,(.row 3 ad9)),(4,31001,(.map bm ad9))],[]⟩
def uW:Shape:=⟨[(5,.int .i64),(18,.sl dk),(19,.int .i64),(20,.int .i64),(30,.sl bm),(31,.int .i64),(32,.int .i64)],[],[(3,31000,(.row 3 ad9)),(4,31001,(.map bm ad9))],[]⟩
def oR:Shape:=⟨[(4,.mp bm ad9)],[],[(3,31000,(.row 3 ad9)),(42,31001,(.iter bm ad9))],[]⟩
def uX:Shape:=⟨[(61,.int .i64),(62,.int .i64)],[],[(3,31000,(.row 3 ad9)),(13,31001,(.row 3 ad9))],[]⟩
def uY:Shape:=⟨[(11,.sl dk),(12,.int .i64),(13,.int .i64)],[(.slot 3,20000,.box 33 [.val bm]),(.slot 4,20001,.box 33 [.val bm])],[],[]⟩
def rB:Shape:=⟨[(1,.int .i64)],[],[(0,1000,(.row 3 ad9))],[]⟩
def ic:Shape:=⟨[(0,.sl dk),(8,.int .i64),(9,.int .i64),(10,.int .i64)],[(.slot 4,20000,.box 31 [.val jn])],[],[(2,207,[])]⟩
def ig:Shape:=⟨[(0,.sl dZ),(8,.int .i64),(9,.int .i64),(10,.int .i64)],[(.slot 4,20000,.box 31 [.val jn])],[],[(2,214,[])]⟩
def jB:Shape:=⟨[(0,.sl bm),(6,.int .i64)],[(.slot 4,20000,.box 33 [.val bm]),(.slot 5,20001,.box 33 [.val bm])],[],[(1,195,[])]⟩
def lP:Shape:=⟨[(11,.sl dk),(12,.int .i64),(13,.int .i64)],[(.slot 5,20000,.box 31 [.val jn]),(.slot 6,20001,.box 52 [.val ad9,.val ad9,.own (.row 33 bm),.val .str,.val ad9])],[],[(1,109,[])]⟩
def ij:Shape:=⟨[(0,.sl cz),(8,.int .i64),(9,.int .i64),(10,.int .i64)],[(.slot 4,20000,.box 33 [.val bm])],[],[(2,232,[])]⟩
def jC:Shape:=⟨[(0,.sl cz),(7,.int .i64),(8,.int .i64)],[(.cap 1 0,1000,.box 33 [.val bm])],[],[(1,245,[1000])]⟩
def jD:Shape:=⟨[(5,.int .i64),(8,.sl dk),(9,.int .i64),(10,.int .i64)],[],[],[(1,239,[])]⟩
def uZ:Shape:=⟨[(1,.sl kx),(5,.int .i64)],[(.slot 2,20000,.box 44 [.val gX]),(.slot 4,20001,.box 44 [.own (.row 52 dk),.own (.row 118 dZ),.own (.row 54 cz)])],[],[]⟩
def rC:Shape:=⟨[(31,.sl kx),(32,.int .i64),(33,.int .i64)],[(.slot 0,1000,.box 100 [.val gX,.val ad9,.val (.sl kx)])],[(6,31000,(.row 27 kx))],[]⟩
def u5:Shape:=⟨[(0,.sl kx),(1,.sl kx),(5,.int .i64)],[],[],[]⟩
def u6:Shape:=⟨[(5,.int .i64)],[(.slot 2,20000,.box 27 [.val kx]),(.slot 3,20001,.box 27 [.val kx])],[],[]⟩
def lQ:Shape:=⟨[(13,.sl kx),(14,.int .i64),(15,.int .i64)],[(.slot 6,20000,.box 44 [.own (.row 52 dk),.own (.row 118 dZ),.own (.row 54 cz)]),(.slot 7,20001,.box 44 [.val gX])],[],[(2,61,[])]⟩
def mz:Shape:=⟨[(0,.sl SD),(1,.int .i64),(8,.int .i64)],[(.slot 6,20000,.box 100 [.val gX,.val ad9,.val (.sl kx)]),(.slot 7,20001,.box 76 [.val gX,.val ad9,.val (.sl kx)])],[],[]⟩
def ans:List (Nat×List (Nat×Shape)):=[(79,[(2,AX)]),(124,[(2,AY)]),(92,[(2,AZ)]),(192,[(6,A1)]),(144,[(2,A2)]),(55,[(4,A3),(12,A4)]),(91,[(2,A5)]),(164,[(5,wj)]),(165,[(4,wm)]),(49,[(5,A6)]),(21,[(3,A7)]),(69,[(4,A8)]),(103,[(3,A9)]),(80,[(4,tn)]),(81,[(3,wo),(8,wq)]),(85,[(18,lN)]),(86,[(4,qD),(12,qE)]),(65,[(4,Ba)]),(217,[(2,Bb)]),(193,[(3,Bc),(7,wu),(10,qF)]),(98,[(4,Be)]),(66,[(4,Bf)]),(191,[(3,Bg)]),(96,[(3,Bh)]),(115,[(4,tp)]),(117,[(7,ky)]),(122,[(3,wx),(9,Bi)]),(136,[(3,tq)]),(161,[(2,wy)]),(154,[(8,lO)]),(155,[(6,EX),(11,wz)]),(157,[(19,mS)]),(143,[(2,Bj)]),(145,[(3,wA)]),(146,[(6,rv)]),(147,[(2,uO)]),(126,[(3,ry)]),(184,[(3,yU)]),(185,[(2,uP)]),(212,[(2,uQ)]),(168,[(2,uR)]),(196,[(3,uS),(11,uT)]),(218,[(3,yV)]),(139,[(2,uU)]),(249,[(3,uV)]),(256,[(4,rz),(8,uW),(14,oR),(21,uX)]),(258,[(2,uY)]),(260,[(1,rB)]),(208206,[(3,ic)]),(215213,[(3,ig)]),(196194,[(5,jB)]),(110108,[(2,lP)]),(233231,[(3,ij)]),(246244,[(2,jC)]),(240238,[(3,jD)]),(20,[(2,uZ)]),(32,[(5,rC)]),(33,[(4,u5)]),(68,[(4,u6)]),(62060,[(3,lQ)]),(7,[(7,mz)])]
def An(f:FuncId)(key:Nat):Option Shape:=(ans.find? (fun p=>p.1==f)).bind fun p=>(p.2.find? (fun q=>q.1==key)).map (fun q=>q.2)
abbrev JT(g:aL):=(sh:Shape)→List Item→sh.T→Option g.B
noncomputable def bO(f:FuncId)(g:aL)(fn:Func)(F:FT)(J:JT g)(x:g.A):Option g.B:=az Tryz.prog Eqs Sg F fn.ntmps (An f) J (qg Tryz.prog g fn) fuel [.code (fn.body.getD .skip)] (entry g x)
noncomputable def fJ(f j:Nat)(g:aL)(fn:Func)(sh:Shape)(F:FT)(J:JT g)(x:sh.T):Option g.B:=az Tryz.prog Eqs Sg F fn.ntmps (An f) J (qg Tryz.prog g fn) fuel (round (aN Tryz.prog (f%1000) j)) (an sh x)
end Go.Vs
namespace Go.Vs
open Go.Proofs
variable {G:(f:FuncId)→(g:aL)→Option (g.A→Option g.B)}
noncomputable abbrev FX(G:(f:FuncId)→(g:aL)→Option (g.A→Option g.B)):FT:=Fix Tryz.prog Eqs Sg An G
noncomputable abbrev LX(G:(f:FuncId)→(g:aL)→Option (g.A→Option g.B))(f:FuncId)(g:aL)(fn:Func):JT g:=Lp Tryz.prog Eqs Sg An G f g fn
abbrev HG(G:(f:FuncId)→(g:aL)→Option (g.A→Option g.B)):Prop:=∀f g,(f==240 || f==241)=false→G f g=none
theorem aq{f:FuncId}{g:aL}{fn:Func}{x:g.A}{y:g.B}{z:Option g.B}(hG:G f g=none)(e:bO f g fn (FX G) (LX G f g fn) x=z)(h:z=some y) (hb:body Tryz.prog (f%1000)=some (fn,fn.body.getD .skip):=by kernel_rfl) (hc:(decide (g.ps.length≤fn.ntmps)&&decide (g.bs.length≤8))=true:=by kernel_rfl):FX G f g x=some y:=KY hG hb hc (e.trans h)
theorem au{f j:Nat}{g:aL}{fn:Func}{sh:Shape}{x:sh.T}{y:g.B}{z:Option g.B}(e:fJ f j g fn sh (FX G) (LX G f g fn) x=z)(h:z=some y) (hs:(match aN Tryz.prog (f%1000) j with | .inLoop _::_=>true|_=>false)=true:=by kernel_rfl):LX G f g fn sh (aN Tryz.prog (f%1000) j) x=some y:=by
 have h:=e.trans h;unfold fJ at h;generalize aN Tryz.prog (f%1000) j=s at hs h ⊢
 split at hs
 ·exact Pz h
 ·cases hs
abbrev aaR:=(Int×Unit)
abbrev aaU:=(((List ag)×((List ah)×Unit))×(((List ag)×((List ah)×Unit))×Unit))
abbrev aaV:=(ab×Unit)
abbrev aaY:=(Int×aaR)
abbrev aaZ:=(ID×Unit)
abbrev aa0:=(aj×Unit)
abbrev abI:=((List ab)×Unit)
abbrev abJ:=(aaV×Unit)
abbrev abL:=((List Int)×Unit)
abbrev abM:=(Unit×Unit)
abbrev abQ:=(aQ×Unit)
abbrev abR:=((List aY)×Unit)
abbrev abY:=(StateT×Unit)
abbrev abZ:=(aa0×Unit)
abbrev ab6:=(aaZ×Unit)
abbrev acb:=(aaZ×((Int×(Int×((List ab)×(ByteArray×aaR))))×Unit))
abbrev ace:=((List ab)×aaR)
abbrev acg:=((List ab)×aaY)
abbrev ach:=((List ag)×aaY)
end Go.Vs
