/- The value semantics is sound -/
import Derived.Test.YtpkfpbpbkabkdaaGreatEngineC
import Derived.Test.YtpkfpbpbkabkdaaGreatProg
import Derived.Scope
import Derived.KernelRfl
set_option linter.unusedSimpArgs false
set_option linter.unusedVariables false
namespace Go.Vs
variable {P:Program} {Eqs:TypeId→Option K} {Sg:FuncId→Option aX} {F:(f:FuncId)→(g:aX)→g.A→Option g.B} {R:Type}
variable {Z Z' Z0:Nat→Prop} {ψ ψ' ψ0:Nat→Value} {h h':Hp} {w w' w0:World} {B0:Nat} {O N:Nat→Prop}
def gM(st:St):(l:List (Nat×Nat×OK))→Nn (l.map (·.2.2))→List Bh
 |[],_=>[]
 |(s,id,ok)::r,x=>(id,(rl (look st.tmps s)).head?,.own ok x.1)::gM st r x.2
theorem yc(st:St):∀(l:List (Nat×Nat×OK)) (x:Nn (l.map (·.2.2))),eO (gM st l x)=tg l x
 |[],_=>rfl
 |(s,id,ok)::r,x=>by simp only[gM,tg];rw[←yc st r x.2];rfl
theorem vS(st:St):∀(l:List (Nat×Nat×OK)) (x:Nn (l.map (·.2.2))),(gM st l x).map (·.1)=l.map (·.2.1)
 |[],_=>rfl
 |(s,id,ok)::r,x=>by simp only[gM,List.map_cons];rw[vS st r x.2]
theorem Bw(st:St):∀(l:List (Nat×Nat×OK)) (x:Nn (l.map (·.2.2))),(gM st l x).filterMap (·.2.1)=l.flatMap fun p=>rl (look st.tmps p.1)
 |[],_=>rfl
 |(s,id,ok)::r,x=>by simp only[gM,List.flatMap_cons];rw[fe,Bw st r x.2];simp only[];rw[zQ]
theorem tD{st:St}{s id:Nat}{ok:OK}{r:List (Nat×Nat×OK)}{x:Nn (((s,id,ok)::r).map (·.2.2))}(hd:pK st ((s,id,ok)::r)=some x):fk st.heap ok (look st.tmps s)=some x.1∧pK st r=some x.2:=by
 have e:pK st ((s,id,ok)::r)=(match fk st.heap ok (look st.tmps s),pK st r with
  |some x,some y=>some ((x,y):ok.T×Nn (r.map (·.2.2)))
  |_,_=>none):=rfl
 rw[e]at hd;clear e;generalize fk st.heap ok (look st.tmps s)=o1 at hd ⊢;generalize pK st r=o2 at hd ⊢
 cases o1 with
 |none=>cases hd
 |some x1 =>
  cases o2 with
  |none=>cases hd
  |some y1=>have:=abK hd;subst this;exact⟨rfl,rfl⟩
theorem D2{hd:Hp}{st:St}:∀(l:List (Nat×Nat×OK)) (x:Nn (l.map (·.2.2))),pK st l=some x→(∀s∈(l.flatMap fun p=>rl (look st.tmps p.1)),hd s=st.heap.get s) → ∀e∈gM st l x,xR Z ψ hd w h' ψ' e
 |[],_,_,_,e,he=>by simp[gM]at he
 |(s,id,ok)::r,x,hx,hk,e,he=>by
  obtain⟨h1,h2⟩:=tD hx;simp only[List.flatMap_cons]at hk;simp only[gM]at he;rcases abn.1 he with rfl|he
  ·exact PC h1 fun s hs=>hk s (abt _ hs)
  ·exact D2 r x.2 h2 (fun s hs=>hk s (abo _ hs)) e he
theorem KV{st:St}{s:Nat}{k:K}{r:List (Nat×K)}{x:Kg (((s,k)::r).map (·.2))}(hd:te st ((s,k)::r)=some x):ic k st.heap (look st.tmps s)=some x.1∧te st r=some x.2:=by
 have e:te st ((s,k)::r)=(match ic k st.heap (look st.tmps s),te st r with
  |some x,some y=>some ((x,y):k.T×Kg (r.map (·.2)))
  |_,_=>none):=rfl
 rw[e]at hd;clear e;generalize ic k st.heap (look st.tmps s)=o1 at hd ⊢;generalize te st r=o2 at hd ⊢
 cases o1 with
 |none=>cases hd
 |some x1 =>
  cases o2 with
  |none=>cases hd
  |some y1=>have:=abK hd;subst this;exact⟨rfl,rfl⟩
theorem gh{T:List (Nat×AV)}{n:Nat}{a:Act}(gO:∀p∈T,aD Z ψ h w p.2 (a.tmps.getD p.1 undef))(hs:a.tmps.size=n)(hd:a.defers=[]):dq Z ψ h w n (look T) a:=by
 refine⟨fun d=>?_,hs,hd⟩
 induction T with
 |nil=>simp only[look,aD]
 |cons p r ih =>
  obtain⟨i,v⟩:=p;simp only[look]
  split
  ·rename_i e;subst e;exact gO _ abu
  ·exact ih fun p hp=>gO p (aa5 _ hp)
section
variable {st:St} {n:Nat} {a:Act}
theorem yd(g:Good Z ψ st.heap.get w B0 O)(t:dq Z ψ st.heap.get w n (look st.tmps) a)(hz:∀b,Z b→Z' b):∀(l:List (Nat×K)) (x:Kg (l.map (·.2))),te st l=some x →(∀id b,AV.bY id∈(l.flatMap fun p=>(look st.tmps p.1).cells)→st.heap.get id≠none→ob (ψ id)=some b→Z' b)→∀p∈tf l x,aD Z' ψ' h' w p.2 (a.tmps.getD p.1 undef)
 |[],_,_,_,p,hp=>by simp[tf]at hp
 |(s,k)::r,x,hx,hf,p,hp=>by
  obtain⟨h1,h2⟩:=KV hx;simp only[List.flatMap_cons]at hf;simp only[tf]at hp;rcases abn.1 hp with rfl|hp
  ·exact uH g hz (fun id b bV=>hf id b (abt _ bV)) h1 (t.rep s)
  ·exact yd g t hz r x.2 h2 (fun id b bV=>hf id b (abo _ bV)) p hp
theorem vT(t:dq Z ψ st.heap.get w n (look st.tmps) a):∀(l:List (Src×Nat×BK)) (ids:List Nat),Iy st l=some ids→(∀i∈ids,st.heap.get i≠none) →(∀p∈ids.zip (l.map (·.2.1)),h' p.2≠none→ψ' p.2=ψ p.1)→∀p∈kS l,aD Z' ψ' h' w p.2 (a.tmps.getD p.1 undef)
 |[],_,_,_,_,p,hp=>by simp[kS]at hp
 |(src,oP,b)::r,ids,hx,hi,kc,p,hp=>by
  simp only[Iy]at hx
  split at hx
  ·rename_i i is h1 h2
   cases hx
   simp only[List.map_cons,List.zip_cons_cons]at kc;have ih:=vT t r is h2 (fun j hj=>hi j (aa5 _ hj)) (fun p hp=>kc p (aa5 _ hp)) p
   cases src with
   |slot s =>
    simp only[kS]at hp;rcases abn.1 hp with rfl|hp
    ·simp only[aau]at h1;obtain⟨sz,h3⟩:=rD h1;have h4:=t.rep s;rw[h3]at h4;exact Cp h4 (hi i abu) (kc (i,oP) abu)
    ·exact ih hp
   |cap s j=>exact ih (by simpa only[kS] using hp)
  ·cases hx
theorem KW{hh:Heap}{ids:List (Nat×Nat)}(hi:∀p∈ids,hh.get p.1≠none)(kc:∀p∈ids,h' p.2≠none→ψ' p.2=ψ p.1):∀(cap:List AV) (is Gk:List Nat) (vs:List Value),kQ cap=some is → is.map (fun i=>(ids.find? (·.1==i)).map (·.2))=Gk.map some→ax Z ψ hh.get w cap vs→ax Z' ψ' h' w (Gk.map fun i=>.ref i 0 0 0) vs
 |[],is,Gk,vs,h1,h2,hr=>by
  simp only[kQ]at h1
  cases h1
  cases Gk with
  |nil=>simpa only[List.map_nil,ax] using hr
  |cons c r=>simp at h2
 |v::cap,is,Gk,vs,h1,h2,hr=>by
  simp only[kQ]at h1
  split at h1
  ·rename_i i is' h3 h4
   cases h1
   cases Gk with
   |nil=>simp at h2
   |cons c r =>
    simp only[List.map_cons,List.cons.injEq]at h2;obtain⟨h5,h6⟩:=h2;simp only[List.map_cons,ax]at hr ⊢;obtain⟨u,us,rfl,h7,h8⟩:=hr;obtain⟨sz,rfl⟩:=rD h3
    cases hf:ids.find? (·.1==i) with
    |none=>rw[hf]at h5;cases h5
    |some p =>
     rw[hf]at h5;have hm:=ab5 hf;have he:=adH hf;simp only[Option.map_some,Option.some.injEq]at h5;have he':p.1=i:=by simpa using he
     refine⟨u,us,rfl,Cp h7 (by rw[←he'];exact hi p hm) (fun hn=>?_),KW hi kc cap is' r us h4 h6 h8⟩;rw[←h5,←he'];exact kc p hm (by rw[h5];exact hn)
  ·cases h1
theorem Bx(t:dq Z ψ st.heap.get w n (look st.tmps) a){ids:List (Nat×Nat)}(hi:∀p∈ids,st.heap.get p.1≠none)(kc:∀p∈ids,h' p.2≠none→ψ' p.2=ψ p.1):∀(l:List (Nat×FuncId×List Nat)),Px st ids l=true → ∀p∈Cj l,aD Z' ψ' h' w p.2 (a.tmps.getD p.1 undef)
 |[],_,p,hp=>by simp[Cj]at hp
 |(s,f,Gk)::r,hx,p,hp=>by
  simp only[Px,Bool.and_eq_true]at hx;simp only[Cj,List.map_cons]at hp;rcases abn.1 hp with rfl|hp
  ·have h1:=hx.1
   split at h1
   ·rename_i f' cap hl;simp only[Bool.and_eq_true,decide_eq_true_eq]at h1;obtain⟨rfl,h2⟩:=h1
    split at h2
    ·rename_i is hri;have h4:=t.rep s;rw[hl]at h4;simp only[aD]at h4 ⊢;obtain⟨vs,h5,h6⟩:=h4;exact⟨vs,h5,KW hi kc cap is Gk _ hri (of_decide_eq_true h2) h6⟩
    ·cases h2
   ·cases h1
  ·exact Bx t hi kc r hx.2 p hp
theorem yf(t:dq Z ψ st.heap.get w n (look st.tmps) a):∀(l:List (Nat×Nat×OK)) (x:Nn (l.map (·.2.2))),pK st l=some x→(∀e∈gM st l x,h' e.1≠none→ψ' e.1=kW ψ e.2.1) → ∀p∈(l.map fun p=>(p.1,AV.bY p.2.1)),aD Z' ψ' h' w p.2 (a.tmps.getD p.1 undef)
 |[],_,_,_,p,hp=>by simp at hp
 |(s,id,ok)::r,x,hx,kc,p,hp=>by
  obtain⟨h1,h2⟩:=tD hx;simp only[gM]at kc;simp only[List.map_cons]at hp;rcases abn.1 hp with rfl|hp
  ·exact IJ h1 (t.rep s) (kc _ abu)
  ·exact yf t r x.2 h2 (fun e he=>kc e (aa5 _ he)) p hp
end
theorem yg{st:St}{m:Nat}:∀(l:List (Nat×Nat×OK)) (x:Nn (l.map (·.2.2))),qo st m l=true→∃o,(m,some m,o)∈gM st l x
 |[],_,h=>by cases h
 |(s,id,ok)::r,x,h=>by
  simp only[qo,Bool.or_eq_true,Bool.and_eq_true,beq_iff_eq]at h;rcases h with⟨rfl,h⟩|h
  ·split at h
   ·rename_i i hl;have hi:i=id:=by simpa using h
    subst hi;exact⟨_,by simp only[gM,hl,rl,List.head?_cons];exact abu⟩
   ·cases h
  ·obtain⟨o,ho⟩:=yg r x.2 h;exact⟨o,aa5 _ ho⟩
theorem vU{st:St}{m:Nat}:∀(l:List (Nat×Nat×OK)) (x:Nn (l.map (·.2.2))),pK st l=some x→qo st m l=true→st.heap.get m≠none
 |[],_,_,h=>by cases h
 |(s,id,ok)::r,x,hx,h=>by
  obtain⟨h1,h2⟩:=tD hx;simp only[qo,Bool.or_eq_true,Bool.and_eq_true,beq_iff_eq]at h;rcases h with⟨rfl,h⟩|h
  ·split at h
   ·rename_i i hl;have hi:i=id:=by simpa using h
    subst hi;rw[hl]at h1;simp only[fk]at h1
    split at h1
    ·rename_i hg;rw[hg];simp
    ·cases h1
   ·cases h
  ·exact vU r x.2 h2 h
theorem PH{mv:List AV}{hh:Heap}{b:Nat}(hb:sS Z ψ hh.get mv b):Z b∨Own ψ hh.get b:=hb.imp (fun h=>h) fun⟨i,_,h2,h3⟩=>⟨i,h2,h3⟩
theorem iA{sh:Shape}{st:St}{x:sh.T}{n:Nat}{a:Act}(hx:dh sh st=some x)(k:Ok Z0 w0 O ψ0 Z ψ st.heap.get w)(t:dq Z ψ st.heap.get w n (look st.tmps) a) :
  ∃Z' ψ',Ok Z0 w0 O ψ0 Z' ψ' (aA sh x).heap.get w∧dq Z' ψ' (aA sh x).heap.get w n (look (aA sh x).tmps) a:=by
 unfold dh at hx
 split at hx
 ·cases hx
 rename_i ids vu
 split at hx
 ·rename_i xv xb xr hv hb hr Gt
  cases hx
  simp only[Bool.and_eq_true]at Gt;obtain⟨KX,DM,ako,akp⟩:=Gt;obtain⟨hlen,DO⟩:=ki _ _ _ hb;have hl':(sh.boxes.map (·.2.1)).length=sh.bs.length:=by simp[Shape.bs]
  let L:List Bh:=cZ sh.bs st.heap ids (sh.boxes.map (·.2.1)) 9000 xb++gM st sh.rows xr
  have eH:eO L=(aA sh (xv,xb,xr)).heap:=by show eO (_++_)=_;rw[oY,kh _ _ _ _ _ _ hb hl',yc];rfl
  have eN:L.map (·.1)=uC sh:=by show(_++_:List Bh).map _=_;rw[List.map_append,jn _ _ _ _ _ _ hb hl',vS];rfl
  have eS:L.filterMap (·.2.1)=Kj st sh ids:=by show(_++_:List Bh).filterMap _=_;rw[List.filterMap_append,lN _ _ _ _ _ _ hb hl',Bw];rfl
  have hn:cI (L.map (·.1))=true:=by rw[eN];exact DM
  have kc:=Co (ψ:=ψ) hn;have hz:∀b,Z b→sS Z ψ st.heap.get (Ci st sh ids) b:=fun b hb=>.inl hb;have He:=(uN KX).2 st.heap;have g':Good (sS Z ψ st.heap.get (Ci st sh ids)) (fZ ψ L) (eO L).get w w0.heap.size O:=by
   refine zR k.fq KX hn eS fun e he=>?_;rcases abH.1 he with he|he
   ·exact nO k.fq hz sh.bs ids _ 9000 xb hb (fun id b bV h1 h2=>.inr ⟨id,abo _ bV,h1,h2⟩) (fun s hs=>He s (abt _ hs)) (fun e he=>kc e (abt _ he)) e he
   ·exact D2 sh.rows xr hr (fun s hs=>He s (abo _ hs)) e he
  have Uo:∀p∈ids.zip (sh.boxes.map (·.2.1)),(eO L).get p.2≠none→fZ ψ L p.2=ψ p.1:=fun p hp bp=>by obtain⟨o,ho⟩:=lO sh.bs ids (sh.boxes.map (·.2.1)) 9000 xb (hh:=st.heap) hlen p hp;exact kc (p.2,some p.1,o) (abt _ ho) bp
  have B4:∀p∈ids.zip (sh.boxes.map (·.2.1)),st.heap.get p.1≠none:=fun p hp=>DO _ (List.of_mem_zip hp).1;refine⟨sS Z ψ st.heap.get (Ci st sh ids),fZ ψ L,?_,?_⟩
  ·rw[←eH];refine⟨g',fun b hb=>.inl (k.g9 b hb),fun b hb=>?_,k.os,k.tape,k.output,k.size,k.block,fun i hi bp=>?_⟩
   ·rcases PH hb with h1|⟨id,h1,h2⟩
    ·exact k.fS b h1
    ·exact .inr (k.fq.live id b h1 h2).2.symm
   ·obtain⟨o,ho⟩:=abT.1 bp;obtain⟨s,hm⟩:=qu ho;have iz:i∈uC sh:=by rw[←eN];exact abY.2 ⟨_,hm,rfl⟩
    have h1:=acQ.1 ako i iz;simp only[Bool.or_eq_true,decide_eq_true_eq]at h1;rcases h1 with(h1|h1)|h1
    ·omega
    ·obtain⟨p,hp,he⟩:=List.any_eq_true.1 h1;simp only[Bool.and_eq_true,beq_iff_eq]at he;have h2:=Uo p hp (by rw[he.2];exact bp);rw[he.1,he.2]at h2;rw[h2];exact k.fix i hi (by have:=B4 p hp;rwa [he.1]at this)
    ·obtain⟨o',pP⟩:=yg sh.rows xr h1;have h2:fZ ψ L i=ψ i:=kc (i,some i,o') (abo _ pP) bp;rw[h2];exact k.fix i hi (vU sh.rows xr hr h1)
  ·rw[←eH];refine gh (fun p hp=>?_) t.size t.defers;simp only[aA]at hp;rcases abH.1 hp with hp|hp
   ·exact yd k.fq t hz sh.BZ xv hv (fun id b bV h1 h2=>.inr ⟨id,abt _ bV,h1,h2⟩) p hp
   ·rcases abH.1 hp with hp|hp
    ·exact vT t sh.boxes ids vu DO Uo p hp
    ·rcases abH.1 hp with hp|hp
     ·exact Bx t B4 Uo sh.fns akp p hp
     ·exact yf t sh.rows xr hr (fun e he=>kc e (abo _ he)) p hp
 ·cases hx
end Go.Vs
namespace Go.Vs
variable {P:Program} {Eqs:TypeId→Option K} {Sg:FuncId→Option aX} {F:(f:FuncId)→(g:aX)→g.A→Option g.B} {R:Type}
variable {Z Z' Z0:Nat→Prop} {ψ ψ' ψ0:Nat→Value} {h h':Hp} {w w' w0:World} {B0:Nat} {O N:Nat→Prop}
def Reach(P:Program)(b:Frame)(cs:List Frame)(wV:Act→World→Prop)(m:Machine):Prop:=∃a' w' todo,wV a' w'∧Steps P m (lone { b.at a' todo with mode:=.returning } cs w')
theorem Reach.head{b:Frame}{cs:List Frame}{wV:Act→World→Prop}{m m':Machine}(h:step P m=.next m')(r:Reach P b cs wV m'):Reach P b cs wV m:=by obtain⟨a,w,todo,h1,h2⟩:=r;exact⟨a,w,todo,h1,.head h h2⟩
theorem Reach.steps{b:Frame}{cs:List Frame}{wV:Act→World→Prop}{m m':Machine}(h:Steps P m m')(r:Reach P b cs wV m'):Reach P b cs wV m:=by obtain⟨a,w,todo,h1,h2⟩:=r;exact⟨a,w,todo,h1,h.trans h2⟩
mutual
theorem KY{p:Nat→Prop}(hp:∀i,p i):∀v:AV,aS p v
 |.ref id _ _ _=>by simp only[aS];exact hp id
 |.bY id=>by simp only[aS];exact hp id
 |.fn _ cap=>by simp only[aS];exact uR hp cap
 |.agg cs=>by simp only[aS];exact uR hp cs
 |.pH vs=>by simp only[aS];exact uR hp vs
 |.no=>by simp only[aS]
 |.bool _=>by simp only[aS]
 |.int _ _=>by simp only[aS]
 |.str _=>by simp only[aS]
 |.mL=>by simp only[aS]
 |.il=>by simp only[aS]
 |.fp _ _ _=>by simp only[aS]
 |.sl _ _ _=>by simp only[aS]
 |.mp _ _ _=>by simp only[aS]
theorem uR{p:Nat→Prop}(hp:∀i,p i):∀l:List AV,aJ p l
 |[]=>by simp only[aJ]
 |v::r=>by simp only[aJ];exact⟨KY hp v,uR hp r⟩
end
theorem YT(s:Nat){n:Nat}{a:Act}{st:St}(k:Ok Z0 w0 O ψ0 Z ψ st.heap.get w)(t:dq Z ψ st.heap.get w n (look st.tmps) a):∃Z',Ok Z0 w0 O ψ0 Z' ψ (TV s st).heap.get w∧dq Z' ψ (TV s st).heap.get w n (look (TV s st).tmps) a:=by
 unfold TV
 split
 ·rename_i m hl
  split
  ·rename_i ty kk xs hg;have g:=k.fq;obtain⟨vs,UK,vL⟩:=g.row m (.row ty kk) xs hg;have hs:∀i o,(st.heap.del m).get i=some o→st.heap.get i=some o:=fun i o hi=>by rw[xL]at hi;by_cases e:i=m<;>simp_all [fE]
   have gg:=g.freeze (Z':=fun b=>Z b∨ob (ψ m)=some b) (h':=(st.heap.del m).get) hs (fun b hb=>.inl hb) (fun b hb=>hb.imp (fun h=>h) (fun hb=>⟨m,by rw[hg];simp,by rw[xL,bE],hb⟩));have n1:Next Z ψ st.heap.get w w0.heap.size O (fun _=>False) (fun b=>Z b∨ob (ψ m)=some b) ψ (st.heap.del m).get w:=⟨fun b hb=>.inl hb,fun b hb=>hb.imp (fun h=>h) (fun hb=>.inl ⟨m,by rw[hg];simp,hb⟩),dF.refl _ _ _,fun i hi=>by obtain⟨o,ho⟩:=abT.1 hi;exact .inl ⟨by rw[hs i o ho];simp,rfl⟩,gg⟩;refine⟨_,k.next (fun id h=>h.elim) n1,⟨fun d=>?_,t.size,t.defers⟩⟩;rw[uP _ rfl];have hr:=t.rep d;by_cases hv:look st.tmps d=.bY m
   ·rw[hv]at hr ⊢;simp only[aD]at hr;have hu:=hr.2 (by rw[hg];simp);simp only[BY,if_true,aD];exact⟨by rw[hu];exact xG UK vL (fun b hb=>.inl hb) (fun b hb=>.inr hb),by simp⟩
   ·have hf:BY m (.sl false kk xs) (look st.tmps d)=look st.tmps d:=by
     unfold BY
     split
     ·split
      ·rename_i i hi e;subst e;exact absurd hi hv
      ·rename_i i hi e;exact hi.symm
     ·rfl
    rw[hf];exact n1.rep g (KY (fun _ h=>h) _) hr
  ·exact⟨Z,k,t⟩
 ·exact⟨Z,k,t⟩
theorem UL{n:Nat}{a:Act}(o:Option Shape){st:St}(k:Ok Z0 w0 O ψ0 Z ψ st.heap.get w)(t:dq Z ψ st.heap.get w n (look st.tmps) a):∃Z',Ok Z0 w0 O ψ0 Z' ψ (Kk o st).heap.get w∧dq Z' ψ (Kk o st).heap.get w n (look (Kk o st).tmps) a:=by
 unfold Kk
 split
 ·rename_i sh;generalize sh.rows=l
  induction l generalizing Z st with
  |nil=>exact⟨Z,k,t⟩
  |cons p r ih =>obtain⟨Z1,k1,t1⟩:=YT p.1 k t;exact ih k1 t1
 ·exact⟨Z,k,t⟩
theorem tE(V:Env P Eqs Sg F)(hm:P.follows .mixedOrders=true){n:Nat}{ann:Nat→Option Shape}{J:(sh:Shape)→List Item→sh.T→Option R}{ret:St→Option R}{r:R}{b:Frame}{cs:List Frame}{wV:Act→World→Prop} (hJ:∀sh c k x Z ψ a w,J sh (.inLoop c::k) x=some r→Ok Z0 w0 O ψ0 Z ψ (aA sh x).heap.get w→dq Z ψ (aA sh x).heap.get w n (look (aA sh x).tmps) a→Reach P b cs wV (lone (b.at a (.code c::.inLoop c::k)) cs w)) (vx:∀st Z ψ a w,ret st=some r→Ok Z0 w0 O ψ0 Z ψ st.heap.get w→dq Z ψ st.heap.get w n (look st.tmps) a→wV a w) :
  ∀(fu:Nat) (items:List Item) (st:St) (Z:Nat→Prop) (ψ:Nat→Value) (a:Act) (w:World),aI P Eqs Sg F n ann J ret fu items st=some r→Ok Z0 w0 O ψ0 Z ψ st.heap.get w→dq Z ψ st.heap.get w n (look st.tmps) a → Reach P b cs wV (lone (b.at a items) cs w)
 |0,items,st,Z,ψ,a,w,hx,k,t=>by
  cases items<;>simp only[aI]at hx<;>cases hx
 |fu+1,[],st,Z,ψ,a,w,hx,k,t=>⟨a,w,[],vx st Z ψ a w (by simpa only[aI] using hx) k t,.one step_end⟩
 |fu+1,it::RY,st,Z,ψ,a,w,hx,k,t=>by
  have ih:=tE V hm (ann:=ann) hJ vx fu;have loop:∀c,(match ann (uD c) with
    |none=>none
    |some sh=>match dh sh st with
     |some x=>J sh (.inLoop c::RY) x
     |none=>none)=some r→Reach P b cs wV (lone (b.at a (.code c::.inLoop c::RY)) cs w):=fun c hx=>by
   split at hx
   ·cases hx
   ·rename_i sh hsh
    split at hx
    ·rename_i x hxx;obtain⟨Z',ψ',k',t'⟩:=iA hxx k t;exact hJ sh c RY x Z' ψ' a w hx k' t'
    ·cases hx
  cases it with
  |inBlock id=>exact .head step_inBlock (ih RY st Z ψ a w (by simpa only[aI] using hx) k t)
  |inScope c=>exact .head step_inScope (ih RY st Z ψ a w (by simpa only[aI] using hx) k t)
  |inLoop c=>exact .head step_inLoop (loop c (by simp only[aI]at hx;exact hx))
  |code c =>
   cases c with
   |skip=>exact .head step_skip (ih RY st Z ψ a w (by simpa only[aI] using hx) k t)
   |label l=>exact .head step_label (ih RY st Z ψ a w (by simpa only[aI] using hx) k t)
   |seq x y=>exact .head step_seq (ih _ st Z ψ a w (by simpa only[aI] using hx) k t)
   |cond c x y =>
    simp only[aI]at hx
    split at hx
    ·rename_i tt ht;have h1:=tB t c;rw[ht]at h1;simp only[aD]at h1
     cases tt with
     |true=>exact .head (step_cond h1) (ih _ st Z ψ a w hx k t)
     |false=>exact .head (step_cond h1) (ih _ st Z ψ a w hx k t)
    ·cases hx
   |scope c=>exact .head step_scope (ih _ st Z ψ a w (by simpa only[aI] using hx) k t)
   |block id c=>exact .head step_block (ih _ st Z ψ a w (by simpa only[aI] using hx) k t)
   |loop c =>
    simp only[aI]at hx
    cases fu with
    |zero=>simp only[aI]at hx;cases hx
    |succ fu=>exact .head step_loop (loop c (by simp only[aI]at hx;exact hx))
   |exit id =>
    simp only[aI]at hx
    split at hx
    ·rename_i k' hk;exact .head (step_exit hk) (ih _ st Z ψ a w hx k t)
    ·cases hx
   |ret=>exact⟨a,w,_,vx st Z ψ a w (by simpa only[aI] using hx) k t,.one step_ret⟩
   |region id ops draw =>simp only[aI]at hx;obtain⟨Zf,k,t⟩:=UL (ann (500000+id)) k t;have hw:=IZ V hm (Q:=fun e a w=>e=.normal∧∃fR Z ψ,aI P Eqs Sg F n ann J ret fu RY fR=some r∧Ok Z0 w0 O ψ0 Z ψ fR.heap.get w∧dq Z ψ fR.heap.get w n (look fR.tmps) a) hx k t (fun fR Z ψ a w h1 h2 h3=>⟨rfl,fR,Z,ψ,h1,h2,h3⟩);obtain⟨e,a',w',⟨rfl,fR,Z',ψ',h1,h2,h3⟩,Un⟩:=hw b RY cs;exact .steps Un (ih RY fR Z' ψ' a' w' h1 h2 h3)
   |_=>simp only[aI]at hx;cases hx
  |_=>simp only[aI]at hx;cases hx
theorem tF{hh:Heap}{n:Nat}{s:List (Nat×AV)}{a:Act}(g:Good Z ψ hh.get w B0 O)(t:dq Z ψ hh.get w n (look s) a):∀(l:List ResultVar) (acc:Array Value) (vs:List AV),A5 P hh s l=some vs → ∃us,(l.foldlM (fun(bs:Array Value) r=>do let y ←(match r with | .tmp t=>pure (a.tmps.getD t undef) | .cell p ty=>do loadVar ty (←asAddr (a.tmps.getD p undef)):Sem Value);pure (bs.push y)) acc:Sem (Array Value)).run P w=.ok (acc++us.toArray) w∧ax Z ψ hh.get w vs us
 |[],acc,vs,hx=>by
  simp only[A5]at hx
  cases hx
  exact⟨[],by simp,by simp only[ax]⟩
 |.tmp d::l,acc,vs,hx=>by
  simp only[A5]at hx
  split at hx
  ·rename_i jo h1
   cases hx
   obtain⟨us,h2,h3⟩:=tF g t l (acc.push (a.tmps.getD d undef)) jo h1;refine⟨a.tmps.getD d undef::us,?_,by simp only[ax];exact⟨_,_,rfl,t.rep d,h3⟩⟩;simp only[List.foldlM_cons,Sem.run_bind,Sem.run_pure,Result.andThen_ok];rw[h2];simp
  ·cases hx
 |.cell d ty::l,acc,vs,hx=>by
  simp only[A5]at hx
  split at hx
  ·rename_i id sz off hd
   split at hx
   ·rename_i bt cs hg
    split at hx
    ·rename_i v jo hv h1
     cases hx
     have h4:=t.rep d;rw[hd]at h4;simp only[aD]at h4;obtain⟨ad,h5,h6⟩:=h4;obtain⟨gg,ws,e1,e2,e3,e4⟩:=g.box id bt cs hg;have h7:=h6 (by rw[hg];simp);rw[e1]at h7;simp only[Yr,Nat.zero_mul,Nat.zero_add]at h7;subst h7;obtain⟨V,h8,h9⟩:=kU (a:=⟨gg,off,none⟩) (e3.drop off) (fun j u hu=>by rw[dp];simp only[World.cell?,e2];rw[List.getElem?_drop]at hu;simpa using hu) hv;have oI:(loadVar ty ⟨gg,off,none⟩).run P w=.ok V w:=by have:=h8;simpa[Instr.loadAt,Instr.sureAddr] using this
     obtain⟨us,h2,h3⟩:=tF g t l (acc.push V) jo h1;refine⟨V::us,?_,by simp only[ax];exact⟨_,_,rfl,h9,h3⟩⟩;have B2:(asAddr (a.tmps.getD d undef)).run P w=.ok ⟨gg,off,none⟩ w:=by rw[h5];rfl
     simp only[List.foldlM_cons,Sem.run_bind,B2,Sem.run_pure,Result.andThen_ok,oI];rw[h2];simp
    ·cases hx
   ·cases hx
  ·cases hx
theorem KZ{fn:Func}{hh:Heap}{n:Nat}{s:List (Nat×AV)}{a:Act}{vs:List AV}(g:Good Z ψ hh.get w B0 O)(t:dq Z ψ hh.get w n (look s) a)(hx:A5 P hh s fn.results.toList=some vs) :
  ∃us v,(results fn a.tmps).run P w=.ok v w∧ax Z ψ hh.get w vs us∧v=(if us.length=1 then us.headD undef else .tuple us.toArray):=by
 obtain⟨us,h1,h2⟩:=tF (P:=P) g t fn.results.toList #[] vs hx;refine⟨us,_,?_,h2,rfl⟩;have h3:(fn.results.mapM fun r=>(match r with | .tmp t=>pure (a.tmps.getD t undef) | .cell p ty=>do loadVar ty (←asAddr (a.tmps.getD p undef)):Sem Value)).run P w=.ok us.toArray w:=by rw[Array.mapM_eq_foldlM,←Array.foldlM_toList];simpa using h1
 have h4:results fn a.tmps=(do
   let vs ←fn.results.mapM fun r=>(match r with | .tmp t=>pure (a.tmps.getD t undef) | .cell p ty=>do loadVar ty (←asAddr (a.tmps.getD p undef)):Sem Value)
   pure (if h:vs.size=1 then vs[0] else .tuple vs)):=rfl
 rw[h4,Sem.run_bind,h3,Result.andThen_ok,Sem.run_pure];congr 1;by_cases h5:us.length=1
 ·obtain⟨u,rfl⟩:=List.length_eq_one_iff.1 h5;simp
 ·rw[dif_neg (by simpa using h5),if_neg h5]
theorem iB:∀(ps:List PK) (ids:List Nat) (s:Nat) (x:Kg (mw ps)) (us:List Value),ax Z ψ h w ((bf ps ids s x).map (·.2)) us→us.length=ps.length∧∀p∈bf ps ids s x,∃j u,p.1=s+j∧us[j]? = some u∧aD Z ψ h w p.2 u
 |[],ids,s,x,us,hr=>by simp only[bf,List.map_nil,ax]at hr;subst hr;exact⟨rfl,fun p hp=>by simp[bf]at hp⟩
 |.val k::ps,ids,s,x,us,hr=>by
  simp only[bf,List.map_cons,ax]at hr;obtain⟨u,j7,rfl,h1,h2⟩:=hr;obtain⟨h3,h4⟩:=iB ps ids (s+1) x.2 j7 h2;refine⟨by simp[h3],fun p hp=>?_⟩;simp only[bf]at hp;rcases abn.1 hp with rfl|hp
  ·exact⟨0,u,rfl,rfl,h1⟩
  ·obtain⟨j,u',h5,h6,h7⟩:=h4 p hp;exact⟨j+1,u',by omega,by simpa using h6,h7⟩
 |.ref::ps,i::ids,s,x,us,hr=>by
  simp only[bf,List.map_cons,ax]at hr;obtain⟨u,j7,rfl,h1,h2⟩:=hr;obtain⟨h3,h4⟩:=iB ps ids (s+1) x j7 h2;refine⟨by simp[h3],fun p hp=>?_⟩;simp only[bf]at hp;rcases abn.1 hp with rfl|hp
  ·exact⟨0,u,rfl,rfl,h1⟩
  ·obtain⟨j,u',h5,h6,h7⟩:=h4 p hp;exact⟨j+1,u',by omega,by simpa using h6,h7⟩
 |.ref::ps,[],s,x,us,hr=>by
  simp only[bf,List.map_cons,ax]at hr;obtain⟨u,j7,rfl,h1,h2⟩:=hr;obtain⟨h3,h4⟩:=iB ps [] (s+1) x j7 h2;refine⟨by simp[h3],fun p hp=>?_⟩;simp only[bf]at hp;rcases abn.1 hp with rfl|hp
  ·exact⟨0,u,rfl,rfl,h1⟩
  ·obtain⟨j,u',h5,h6,h7⟩:=h4 p hp;exact⟨j+1,u',by omega,by simpa using h6,h7⟩
 |.own::ps,i::ids,s,x,us,hr=>by
  simp only[bf,List.map_cons,ax]at hr;obtain⟨u,j7,rfl,h1,h2⟩:=hr;obtain⟨h3,h4⟩:=iB ps ids (s+1) x j7 h2;refine⟨by simp[h3],fun p hp=>?_⟩;simp only[bf]at hp;rcases abn.1 hp with rfl|hp
  ·exact⟨0,u,rfl,rfl,h1⟩
  ·obtain⟨j,u',h5,h6,h7⟩:=h4 p hp;exact⟨j+1,u',by omega,by simpa using h6,h7⟩
 |.own::ps,[],s,x,us,hr=>by
  simp only[bf,List.map_cons,ax]at hr;obtain⟨u,j7,rfl,h1,h2⟩:=hr;obtain⟨h3,h4⟩:=iB ps [] (s+1) x j7 h2;refine⟨by simp[h3],fun p hp=>?_⟩;simp only[bf]at hp;rcases abn.1 hp with rfl|hp
  ·exact⟨0,u,rfl,rfl,h1⟩
  ·obtain⟨j,u',h5,h6,h7⟩:=h4 p hp;exact⟨j+1,u',by omega,by simpa using h6,h7⟩
 |.Gi f m::ps,ids,s,x,us,hr=>by
  simp only[bf,List.map_cons,ax]at hr;obtain⟨u,j7,rfl,h1,h2⟩:=hr;obtain⟨h3,h4⟩:=iB ps (ids.drop m) (s+1) x j7 h2;refine⟨by simp[h3],fun p hp=>?_⟩;simp only[bf]at hp;rcases abn.1 hp with rfl|hp
  ·exact⟨0,u,rfl,rfl,h1⟩
  ·obtain⟨j,u',h5,h6,h7⟩:=h4 p hp;exact⟨j+1,u',by omega,by simpa using h6,h7⟩
 |.agg m::ps,ids,s,x,us,hr=>by
  simp only[bf,List.map_cons,ax]at hr;obtain⟨u,j7,rfl,h1,h2⟩:=hr;obtain⟨h3,h4⟩:=iB ps (ids.drop m) (s+1) x j7 h2;refine⟨by simp[h3],fun p hp=>?_⟩;simp only[bf]at hp;rcases abn.1 hp with rfl|hp
  ·exact⟨0,u,rfl,rfl,h1⟩
  ·obtain⟨j,u',h5,h6,h7⟩:=h4 p hp;exact⟨j+1,u',by omega,by simpa using h6,h7⟩
section
variable {An:FuncId→Nat→Option Shape}
theorem D3(V:Env P Eqs Sg F)(hm:P.follows .mixedOrders=true){f:FuncId}{g:aX}{fn:Func}{y:g.B}{b:Frame}{cs:List Frame}{wV:Act→World→Prop} (vx:∀st Z ψ a w,th P g fn st=some y→Ok Z0 w0 O ψ0 Z ψ st.heap.get w→dq Z ψ st.heap.get w fn.ntmps (look st.tmps) a→wV a w) :
  ∀(n:Nat) (sh:Shape) (c:Code) (k:List Item) (x:sh.T) (Z:Nat→Prop) (ψ:Nat→Value) (a:Act) (w:World),oQ P Eqs Sg An F f g fn n sh (.inLoop c::k) x=some y → Ok Z0 w0 O ψ0 Z ψ (aA sh x).heap.get w→dq Z ψ (aA sh x).heap.get w fn.ntmps (look (aA sh x).tmps) a→Reach P b cs wV (lone (b.at a (.code c::.inLoop c::k)) cs w)
 |0,sh,c,k,x,Z,ψ,a,w,hx,_,_=>by simp only[oQ]at hx;cases hx
 |n+1,sh,c,k,x,Z,ψ,a,w,hx,ko,t=>by simp only[oQ]at hx;exact tE V hm (fun sh c k x Z ψ a w h1 h2 h3=>D3 V hm vx n sh c k x Z ψ a w h1 h2 h3) vx fuel _ _ Z ψ a w hx ko t
theorem I0{n i:Nat}(h:i∈aZ n):∃j,j<n∧i=1000+20*j:=by unfold aZ at h;obtain⟨j,h1,rfl⟩:=abY.1 h;exact⟨j,adz.1 h1,rfl⟩
theorem UM{α:Type}{l:List α}{a:α}(h:a∈l):(a,a)∈l.zip l:=by
 induction l with
 |nil=>cases h
 |cons b r ih =>
  simp only[List.zip_cons_cons];rcases abn.1 h with rfl|h
  ·exact abu
  ·exact aa5 _ (ih h)
theorem NX(V:Env P Eqs Sg F)(hm:P.follows .mixedOrders=true){f:FuncId}{g:aX}{n:Nat}{x:g.A}{y:g.B}(hx:No P Eqs Sg An F f g n x=some y):Hd P f g x y:=by
 intro Z ψ0 w lP hg hr;unfold No at hx
 split at hx
 ·cases hx
 rename_i fn c aaK;have hf:P.funcs[f%1000]? = some fn∧fn.body=some c:=by
  unfold body at aaK;obtain⟨fn',h1,h2⟩:=acR.1 aaK;obtain⟨c',h3,h4⟩:=acS.1 h2
  cases h4
  exact⟨h1,h3⟩
 split at hx
 ·rename_i hle;simp only[Bool.and_eq_true,decide_eq_true_eq]at hle;obtain⟨hlen,ab3⟩:=iB g.ps (aZ g.bs.length) 0 x.1 lP hr;intro cs
  let b:Frame:={ (default:Frame) with fn:=f%1000,kind:=.normal }
  let a0:Act:={ tmps:=lP.toArray++Array.replicate (fn.ntmps-lP.toArray.size) undef,defers:=[] }
  have ab4:Frame.enter P (f%1000) lP.toArray .normal=b.at a0 [.code c]:=by simp[Frame.enter,Frame.at,hf.1,hf.2,b,a0]
  have ok0:Ok Z w (Own ψ0 (rI g x)) ψ0 Z ψ0 (entry g x).heap.get w :=⟨hg,fun _ h=>h,fun _ h=>.inl h,rfl,rfl,rfl,abZ _,fun _ _ _=>rfl,fun _ _ _=>rfl⟩;have tr0:dq Z ψ0 (entry g x).heap.get w fn.ntmps (look (entry g x).tmps) a0:=by
   refine gh (fun p hp=>?_) (by simp[a0];omega) rfl;obtain⟨j,u,h1,h2,h3⟩:=ab3 p hp;rw[h1];have hj:j<lP.length:=(abg.1 h2).1;have:a0.tmps.getD (0+j) undef=u:=by rw[Nat.zero_add,Array.getD_eq_getD_getElem?];simp only[a0];rw[Array.getElem?_append_left (by simpa using hj)];simp[h2]
   rw[this];exact h3
  have vx:∀st Z1 qf a w1,th P g fn st=some y→Ok Z w (Own ψ0 (rI g x)) ψ0 Z1 qf st.heap.get w1→dq Z1 qf st.heap.get w1 fn.ntmps (look st.tmps) a → a.defers=[]∧∃v,(results fn a.tmps).run P w1=.ok v w1∧∃v' Z' ψ',Ending.returned v=.returned v'∧(∀b,Z b→Z' b)∧(∀b,Z' b→Z b∨Own ψ0 (rI g x) b∨w.heap.size≤b)∧dF ψ0 (rI g x) w w1 ∧ Good Z' ψ' (kZ g y).get w1 w.heap.size (Own ψ0 (rI g x))∧(∀i∈aZ g.bs.length,ψ' i=ψ0 i)∧aD Z' ψ' (kZ g y).get w1 (gu (bh g.rs (aZ g.bs.length) 2000 3000 y.1)) v':=by
   intro st Z1 qf a w1 vx k t;refine⟨t.defers,?_⟩;unfold th at vx
   split at vx
   ·cases vx
   rename_i vs wD
   split at vx
   ·rename_i y1 y2 hd hb Gt
    cases vx
    simp only[Bool.and_eq_true]at Gt;obtain⟨KX,DM⟩:=Gt;obtain⟨us,v,h1,h2,h3⟩:=KZ (P:=P) k.fq t wD;have hl':(aZ g.bs.length).length=g.bs.length:=by simp[aZ]
    let L:List Bh:=cZ g.bs st.heap (aZ g.bs.length) (aZ g.bs.length) 2000 y2++de g.rs vs 3000 y1
    have eH:eO L=kZ g (y1,y2):=by show eO (_++_)=_;rw[oY,kh _ _ _ _ _ _ hb hl',iI];rfl
    have eN:L.map (·.1)=sX g:=by show(_++_:List Bh).map _=_;rw[List.map_append,jn _ _ _ _ _ _ hb hl',gX];rfl
    have eS:L.filterMap (·.2.1)=dE g.bs st.heap (aZ g.bs.length)++eZ g.rs vs:=by show(_++_:List Bh).filterMap _=_;rw[List.filterMap_append,lN _ _ _ _ _ _ hb hl',jV _ _ _ _ hd]
    have hn:cI (L.map (·.1))=true:=by rw[eN];exact DM
    have kc:=Co (ψ:=qf) hn;have hz:∀b,Z1 b→sS Z1 qf st.heap.get (ir g.rs vs++iq g.bs st.heap (aZ g.bs.length)) b:=fun b hb=>.inl hb;have He:=(uN KX).2 st.heap;have g':Good (sS Z1 qf st.heap.get (ir g.rs vs++iq g.bs st.heap (aZ g.bs.length))) (fZ qf L) (eO L).get w1 w.heap.size (Own ψ0 (rI g x)):=by
     refine zR k.fq KX hn eS fun e he=>?_;rcases abH.1 he with he|he
     ·exact nO k.fq hz g.bs _ _ 2000 y2 hb (fun id b bV h1 h2=>.inr ⟨id,abo _ bV,h1,h2⟩) (fun s hs=>He s (abt _ hs)) (fun e he=>kc e (abt _ he)) e he
     ·exact kY g.rs vs 3000 y1 hd (fun s hs=>He s (abo _ hs)) e he
    obtain⟨Hq,DO⟩:=ki _ _ _ hb;have TG:=uO (ids2:=aZ g.bs.length) (Z':=sS Z1 qf st.heap.get (ir g.rs vs++iq g.bs st.heap (aZ g.bs.length))) (ψ':=fZ qf L) (h':=(eO L).get) k.fq hz hb hl' (fun e he=>kc e (abt _ he)) g.rs vs 3000 y1 us hd (fun id b bV h1 h2=>.inr ⟨id,abt _ bV,h1,h2⟩) (fun e he=>kc e (abo _ he)) h2;refine⟨v,h1,v,sS Z1 qf st.heap.get (ir g.rs vs++iq g.bs st.heap (aZ g.bs.length)),fZ qf L,rfl,fun b hb=>.inl (k.g9 b hb),fun b hb=>?_,⟨k.os,k.tape,k.output,k.size,k.block⟩,by rw[←eH];exact g',fun i hi=>?_,?_⟩
    ·rcases PH hb with h4|⟨id,h4,h5⟩
     ·exact k.fS b h4
     ·exact .inr (k.fq.live id b h4 h5).2.symm
    ·obtain⟨o,ho⟩:=lO (hh:=st.heap) g.bs (aZ g.bs.length) (aZ g.bs.length) 2000 y2 Hq (i,i) (UM hi);rw[jU hn (List.mem_append_left _ ho)];obtain⟨j,h4,h5⟩:=I0 hi;exact k.fix i (by omega) (DO i hi)
    ·rw[←eH];have T0:us.length=(bh g.rs (aZ g.bs.length) 2000 3000 y1).length:=TG.length.symm;rw[h3]
     match hE:bh g.rs (aZ g.bs.length) 2000 3000 y1,us,TG,T0 with
     |[],[],TG,_=>simp only[gu];simp only[aD];exact⟨#[],rfl,by simpa using TG⟩
     |[e1],[u],TG,_ =>
      simp only[ax]at TG;obtain⟨u',j7,he,h4,_⟩:=TG
      cases he
      simpa[gu] using h4
     |e1::e2::er,u1::u2::ur,TG,_ =>simp only[gu,aD];exact⟨(u1::u2::ur).toArray,by simp,by simpa using TG⟩
   ·cases vx
  have reach:=tE V hm (b:=b) (cs:=cs) (fun sh c k x Z ψ a w h1 h2 h3=>D3 V hm vx n sh c k x Z ψ a w h1 h2 h3) vx fuel _ _ Z ψ0 a0 w hx ok0 tr0;obtain⟨a',w',todo,⟨hd,v,yh,hR⟩,hs⟩:=reach;rw[←ab4]at hs;exact⟨.returned v,w',_,hR,hs,rfl,rfl,hd,rfl,fn,hf.1,yh⟩
 ·cases hx
end
theorem K0(hX:∀f g u,Sg f=some g→g.x=some u→jM P (f%1000) u){G:(f:FuncId)→(g:aX)→Option (g.A→Option g.B)}{An:FuncId→Nat→Option Shape}(Gc:∀t k,Eqs t=some k→nK P t k)(RH:∀f g,Sg f=some g→kj P (f%1000))(hm:P.follows .mixedOrders=true) (hG:∀f g u x y,Sg f=some g→G f g=some u→u x=some y→Hd P f g x y):∀(m:Nat) f g x y,Sg f=some g→Fn P Eqs Sg An G m f g x=some y→Hd P f g x y
 |0,f,g,x,y,hs,hx=>by
  simp only[Fn]at hx
  split at hx
  ·rename_i u hu;exact hG f g u x y hs hu hx
  ·cases hx
 |m+1,f,g,x,y,hs,hx=>by
  simp only[Fn]at hx
  split at hx
  ·rename_i u hu;exact hG f g u x y hs hu hx
  ·exact NX ⟨Gc,fun f g x y h1 h2=>K0 hX Gc RH hm hG m f g x y h1 h2,hX,RH⟩ hm hx
end Go.Vs
namespace Go.Vs
abbrev FT:=(f:FuncId)→(g:aX)→g.A→Option g.B
variable {P:Program} {Eqs:TypeId→Option K} {Sg:FuncId→Option aX} {R:Type}
def xt(p:Nat→Prop):Prop:=∃m,∀m',m≤m'→p m'
theorem xt.now{p:Nat→Prop}(h:∀m,p m):xt p:=⟨0,fun m _=>h m⟩
theorem xt.and{p q r:Nat→Prop}(h:xt p)(k:xt q)(hr:∀m,p m→q m→r m):xt r:=by obtain⟨a,ha⟩:=h;obtain⟨b,hb⟩:=k;exact⟨max a b,fun m hm=>hr m (ha m (by omega)) (hb m (by omega))⟩
theorem xt.imp{p r:Nat→Prop}(h:xt p)(hr:∀m,p m→r m):xt r:=by obtain⟨a,ha⟩:=h;exact⟨a,fun m hm=>hr m (ha m hm)⟩
def To(A:Nat→FT)(L:FT):Prop:=∀f g x y,L f g x=some y→xt fun m=>A m f g x=some y
def ToK{α:Type}(A:Nat→α→Option R)(L:α→Option R):Prop:=∀x y,L x=some y→xt fun m=>A m x=some y
def ToJ(A:Nat→(sh:Shape)→List Item→sh.T→Option R)(L:(sh:Shape)→List Item→sh.T→Option R):Prop:=∀sh k x y,L sh k x=some y→xt fun m=>A m sh k x=some y
theorem UN(h:Heap)(id:Nat)(f:FuncId)(vs:List AV):(∀F F':FT,kf Sg F h id f vs some=kf Sg F' h id f vs some) ∨ ∃ff g x,(∀F F':FT,F ff g x=F' ff g x→kf Sg F h id f vs some=kf Sg F' h id f vs some)∧∀F:FT,F ff g x=none→kf Sg F h id f vs some=none:=by
 unfold kf
 split
 ·exact .inl fun _ _=>rfl
 rename_i g hg
 split
 ·exact .inl fun _ _=>rfl
 split
 ·split
  ·split
   ·rename_i x b hx hb hp;refine .inr ⟨_,g,(x,b),fun F F' e=>by rw[e],fun F e=>by rw[e];rfl⟩
   ·exact .inl fun _ _=>rfl
  ·split
   ·rename_i x b hx hb hp;refine .inr ⟨_,g,(x,b),fun F F' e=>by rw[e],fun F e=>by rw[e];rfl⟩
   ·exact .inl fun _ _=>rfl
 ·exact .inl fun _ _=>rfl
theorem YU{A:Nat→FT}{L:FT}(hA:To A L){h:Heap}{id:Nat}{f:FuncId}{vs:List AV}{e:bZ}(he:kf Sg L h id f vs some=some e):xt fun m=>kf Sg (A m) h id f vs some=some e:=by
 rcases UN (Sg:=Sg) h id f vs with k|⟨ff,g,x,k1,k2⟩
 ·exact .now fun m=>(k _ _).trans he
 ·cases hy:L ff g x with
  |none=>rw[k2 L hy]at he;cases he
  |some y=>exact(hA _ _ _ _ hy).imp fun m hm=>(k1 (A m) L (hm.trans hy.symm)).trans he
theorem K1{A:Nat→FT}{L:FT}(hA:To A L){id:Nat}{h:Heap}{s:List (Nat×AV)}{o:Oper}{e:bZ}(he:dy P Eqs Sg L id h s o some=some e):xt fun m=>dy P Eqs Sg (A m) id h s o some=some e:=by
 obtain⟨dst,op,type,pos,after,guard⟩:=o
 cases op with
 |call c =>
  obtain⟨callee,args,argTypes⟩:=c
  cases callee with
  |value f =>
   simp only[dy]at he
   split at he
   ·rename_i f' cap hf;refine(YU hA he).imp fun m hm=>?_;simp only[dy,hf];exact hm
   ·cases he
  |builtin bi=>cases bi<;>exact .now fun m=>he
  |invoke _ _=>exact .now fun m=>he
 |unOp u _ _=>cases u<;>exact .now fun m=>he
 |makeFunc fn _ _=>cases fn<;>exact .now fun m=>he
 |makeMap _ r=>cases r<;>exact .now fun m=>he
 |next _ b=>cases b<;>exact .now fun m=>he
 |_=>exact .now fun m=>he
theorem xt.all{p:Nat→Nat→Prop}:∀(n:Nat),(∀j,j<n→xt (p j))→xt fun m=>∀j,j<n→p j m
 |0,_=>.now fun m j hj=>absurd hj (Nat.not_lt_zero _)
 |n+1,h=>(xt.all n fun j hj=>h j (by omega)).and (h n (by omega)) fun m h1 h2 j hj=>by
  by_cases e:j=n
  ·subst e;exact h2
  ·exact h1 j (by omega)
theorem NY{h:Heap}{x:AV}{K:Nat→AV→Heap→Option R}{KL:AV→Heap→Option R}(hK:∀v h y,KL v h=some y→xt fun m=>K m v h=some y){r:R}(he:mN h x KL=some r):xt fun m=>mN h x (K m)=some r:=by
 unfold mN at he ⊢
 split at he
 ·rename_i id
  split at he
  ·rename_i kk vk p hg
   try simp only[hg]
   cases hp:p.2 with
   |nil =>simp only[hp,List.isEmpty_nil,cond_true]at he ⊢;exact hK _ _ _ he
   |cons c l =>simp only[hp,List.isEmpty_cons,cond_false]at he ⊢;have h1:=qA he;refine(xt.all _ fun j hj=>?_).imp fun m hm=>o8 (by simp) hm;have h2:=h1 j hj;rw[List.getElem?_eq_getElem hj]at h2 ⊢;simp only[Option.bind_some]at h2 ⊢;exact hK _ _ _ h2
  ·cases he
 ·cases he
theorem UO{h:Heap}{x:AV}{want:Bool}{K:Nat→AV→Option R}{KL:AV→Option R}(hK:∀v y,KL v=some y→xt fun m=>K m v=some y){r:R}(he:xz h x want KL=some r):xt fun m=>xz h x want (K m)=some r:=by
 unfold xz at he ⊢
 split at he
 ·exact hK _ _ he
 ·rename_i xs hv
  cases Ba:xs.isEmpty with
  |true =>simp only[Ba,cond_true]at he ⊢;have h1:=qA he;exact(xt.all _ fun j hj=>hK _ _ (h1 j hj)).imp fun m hm=>o8 (by decide) hm
  |false =>simp only[Ba,cond_false]at he ⊢;exact hK _ _ he
 ·cases he
theorem D4{A:Nat→FT}{L:FT}(hA:To A L){rid:Nat}{draw:Bool}{ops:Array Oper}{b:Array Nat}{K:Nat→St→Option R}{KL:St→Option R}(hK:ToK K KL) :
  ∀(l:List (Nat×Oper)) (st:St) (r:R),bQ P Eqs Sg L rid draw ops b l st KL=some r→xt fun m=>bQ P Eqs Sg (A m) rid draw ops b l st (K m)=some r
 |[],st,r,he=>hK st r (by simpa only[bQ] using he)
 |(i,o)::l,st,r,he=>by
  have ih:=D4 hA (rid:=rid) (draw:=draw) (ops:=ops) (b:=b) hK l;have run:∀st:St,(match (if draw then none else rp P (opId rid i) st o) with
    |some fR=>bQ P Eqs Sg L rid draw ops b l fR KL
    |none=>match (if draw then none else xy o) with
    |some x=>mN st.heap (ρ st.tmps x) fun v h=>bQ P Eqs Sg L rid draw ops b l (({ st with heap:=h }:St).put o.dst v) KL
    |none=>match (if draw then none else isNil P o) with
    |some (x,want)=>xz st.heap (ρ st.tmps x) want fun v=>bQ P Eqs Sg L rid draw ops b l (st.put o.dst v) KL
    |none=>if draw then dy P Eqs Sg L (opId rid i) (jl (ahead rid (b.getD i 0) st.heap) (je ops b i st.tmps o)) st.tmps o fun e =>
     if(iV true rid ops b i (b.getD i 0) (jf (je ops b i st.tmps o) (ahead rid (b.getD i 0) st.heap) e)&&nG (je ops b i st.tmps o) e)=true then
      bQ P Eqs Sg L rid draw ops b l ({ st with heap:=match jf (je ops b i st.tmps o) (ahead rid (b.getD i 0) st.heap) e with | .wr _ h=>h|e=>e.h st.heap }.put o.dst e.v) KL else none
     else dy P Eqs Sg L (opId rid i) st.heap st.tmps o fun e =>
     if iV false rid ops b i (2 ^ i-1) e then bQ P Eqs Sg L rid draw ops b l ({ st with heap:=match e with | .wr _ h=>h|e=>e.h st.heap }.put o.dst e.v) KL else none)=some r →
    xt fun m=>(match (if draw then none else rp P (opId rid i) st o) with
    |some fR=>bQ P Eqs Sg (A m) rid draw ops b l fR (K m)
    |none=>match (if draw then none else xy o) with
    |some x=>mN st.heap (ρ st.tmps x) fun v h=>bQ P Eqs Sg (A m) rid draw ops b l (({ st with heap:=h }:St).put o.dst v) (K m)
    |none=>match (if draw then none else isNil P o) with
    |some (x,want)=>xz st.heap (ρ st.tmps x) want fun v=>bQ P Eqs Sg (A m) rid draw ops b l (st.put o.dst v) (K m)
    |none=>if draw then dy P Eqs Sg (A m) (opId rid i) (jl (ahead rid (b.getD i 0) st.heap) (je ops b i st.tmps o)) st.tmps o fun e =>
     if(iV true rid ops b i (b.getD i 0) (jf (je ops b i st.tmps o) (ahead rid (b.getD i 0) st.heap) e)&&nG (je ops b i st.tmps o) e)=true then
      bQ P Eqs Sg (A m) rid draw ops b l ({ st with heap:=match jf (je ops b i st.tmps o) (ahead rid (b.getD i 0) st.heap) e with | .wr _ h=>h|e=>e.h st.heap }.put o.dst e.v) (K m) else none
     else dy P Eqs Sg (A m) (opId rid i) st.heap st.tmps o fun e =>
     if iV false rid ops b i (2 ^ i-1) e then bQ P Eqs Sg (A m) rid draw ops b l ({ st with heap:=match e with | .wr _ h=>h|e=>e.h st.heap }.put o.dst e.v) (K m) else none)=some r:=by
   intro st h
   split at h
   ·rename_i fR qz
    try simp only[qz]
    exact ih _ r h
   rename_i qz
   split at h
   ·rename_i x Hj
    try simp only[qz,Hj]
    exact NY (fun v h y hy=>ih _ y hy) h
   rename_i Hj
   split at h
   ·rename_i x want hnl
    try simp only[qz,Hj,hnl]
    exact UO (fun v y hy=>ih _ y hy) h
   rename_i hnl
   try simp only[qz,Hj,hnl]
   cases draw with
   |true =>
    simp only[if_true]at h ⊢;rw[nh]at h;obtain⟨e,h1,h2⟩:=acR.1 h;by_cases hc:(iV true rid ops b i (b.getD i 0) (jf (je ops b i st.tmps o) (ahead rid (b.getD i 0) st.heap) e)&&nG (je ops b i st.tmps o) e)=true
    ·rw[if_pos hc]at h2;refine(K1 hA h1).and (ih _ r h2) fun m h3 h4=>?_;rw[nh,h3,Option.bind_some,if_pos hc];exact h4
    ·rw[if_neg hc]at h2;cases h2
   |false =>
    simp only[Bool.false_eq_true,if_false]at h ⊢;rw[nh]at h;obtain⟨e,h1,h2⟩:=acR.1 h;by_cases hc:iV false rid ops b i (2 ^ i-1) e=true
    ·rw[if_pos hc]at h2;refine(K1 hA h1).and (ih _ r h2) fun m h3 h4=>?_;rw[nh,h3,Option.bind_some,if_pos hc];exact h4
    ·rw[if_neg hc]at h2;cases h2
  simp only[bQ]at he ⊢
  split at he
  ·rename_i hg
   try simp only[hg]
   exact run _ he
  ·rename_i j want hg
   try simp only[hg]
   split at he
   ·cases he
   ·rename_i d hd
    try simp only[hd]
    split at he
    ·rename_i t ht
     try simp only[ht]
     cases t<;>cases want<;>simp only[cond_true,cond_false,if_true,if_false,Bool.false_eq_true]at he ⊢<;>first|exact run _ he|exact ih _ r he
    ·rename_i ht
     try simp only[ht]
     exact ih _ r he
    ·cases he
theorem GA{A:Nat→FT}{L:FT}(hA:To A L){n rid:Nat}{ops:Array Oper}{draw:Bool}{K:Nat→St→Option R}{KL:St→Option R}(hK:ToK K KL){st:St}{r:R} (he:jH P Eqs Sg L n rid ops draw st KL=some r):xt fun m=>jH P Eqs Sg (A m) n rid ops draw st (K m)=some r:=by
 unfold jH at he ⊢;by_cases hc:((ops.all fun o=>jG n o)&&(!draw || (xx ops (if draw then Region.before ops else #[])&&(C9 ops (if draw then Region.before ops else #[])&&cI (ops.toList.filterMap (·.dst)))))&&decide (ops.size≤128))=true
 ·dsimp only at he ⊢
  rw[if_pos hc]at he;refine(D4 hA hK _ _ r he).imp fun m hm=>?_;rw[if_pos hc];exact hm
 ·dsimp only at he
  rw[if_neg hc]at he;cases he
theorem iK{A:Nat→FT}{L:FT}(hA:To A L){n:Nat}{ann:Nat→Option Shape}{J:Nat→(sh:Shape)→List Item→sh.T→Option R}{JL:(sh:Shape)→List Item→sh.T→Option R}(hJ:ToJ J JL){ret:St→Option R} :
  ∀(fu:Nat) (items:List Item) (st:St) (r:R),aI P Eqs Sg L n ann JL ret fu items st=some r→xt fun m=>aI P Eqs Sg (A m) n ann (J m) ret fu items st=some r
 |0,items,st,r,he=>by cases items<;>simp only[aI]at he<;>cases he
 |fu+1,[],st,r,he=>.now fun m=>by simpa only[aI] using he
 |fu+1,it::RY,st,r,he=>by
  have ih:=iK hA (n:=n) (ann:=ann) hJ (ret:=ret) fu
  cases it with
  |inBlock id=>simp only[aI]at he ⊢;exact ih _ _ _ he
  |inScope c=>simp only[aI]at he ⊢;exact ih _ _ _ he
  |inLoop c =>
   simp only[aI]at he ⊢
   split at he
   ·cases he
   ·rename_i sh hsh
    try simp only[hsh]
    split at he
    ·rename_i x hx
     try simp only[hx]
     exact hJ _ _ _ _ he
    ·cases he
  |code c =>
   cases c with
   |cond c x y =>
    simp only[aI]at he ⊢
    split at he
    ·rename_i t ht
     try simp only[ht]
     cases t<;>simp only[cond_true,cond_false]at he ⊢<;>exact ih _ _ _ he
    ·cases he
   |exit id =>
    simp only[aI]at he ⊢
    split at he
    ·rename_i k' hk
     try simp only[hk]
     exact ih _ _ _ he
    ·cases he
   |ret=>exact .now fun m=>by simpa only[aI] using he
   |region id ops draw =>simp only[aI]at he ⊢;exact GA hA (K:=fun m fR=>aI P Eqs Sg (A m) n ann (J m) ret fu RY fR) (fun st y h=>ih RY st y h) he
   |skip=>simp only[aI]at he ⊢;exact ih _ _ _ he
   |label l=>simp only[aI]at he ⊢;exact ih _ _ _ he
   |seq x y=>simp only[aI]at he ⊢;exact ih _ _ _ he
   |block id c=>simp only[aI]at he ⊢;exact ih _ _ _ he
   |scope c=>simp only[aI]at he ⊢;exact ih _ _ _ he
   |loop c=>simp only[aI]at he ⊢;exact ih _ _ _ he
   |_=>simp only[aI]at he;cases he
  |_=>simp only[aI]at he;cases he
section
variable {An:FuncId→Nat→Option Shape} {G:(f:FuncId)→(g:aX)→Option (g.A→Option g.B)}
def FLe(F F':FT):Prop:=∀f g x y,F f g x=some y→F' f g x=some y
theorem FLe.to{F F':FT}(h:FLe F F'):To (fun _=>F') F:=fun f g x y hy=>.now fun _=>h f g x y hy
theorem xt.get{p:Prop}(h:xt fun _=>p):p:=by obtain⟨m,hm⟩:=h;exact hm m (abZ _)
theorem qB{F F':FT}(h:FLe F F'){f:FuncId}{g:aX}{fn:Func}:∀(n n':Nat) (sh:Shape) (k:List Item) (x:sh.T) (y:g.B),n≤n'→oQ P Eqs Sg An F f g fn n sh k x=some y→oQ P Eqs Sg An F' f g fn n' sh k x=some y
 |0,_,_,_,_,_,_,hx=>by simp only[oQ]at hx;cases hx
 |n+1,0,_,_,_,_,hn,_=>by omega
 |n+1,n'+1,sh,k,x,y,hn,hx=>by
  cases k with
  |nil=>simp only[oQ]at hx;cases hx
  |cons it k =>
   cases it with
   |inLoop c =>simp only[oQ]at hx ⊢;exact(iK h.to (J:=fun _=>oQ P Eqs Sg An F' f g fn n') (JL:=oQ P Eqs Sg An F f g fn n) (fun sh k x y hy=>.now fun _=>qB h n n' sh k x y (by omega) hy) _ _ _ _ hx).get
   |_=>simp only[oQ]at hx;cases hx
theorem RZ{F F':FT}(h:FLe F F'){f:FuncId}{g:aX}{n n':Nat}{x:g.A}{y:g.B}(hn:n≤n')(hx:No P Eqs Sg An F f g n x=some y):No P Eqs Sg An F' f g n' x=some y:=by
 unfold No at hx ⊢
 split at hx
 ·cases hx
 ·rename_i fn c hb
  try simp only[hb]
  split at hx
  ·rename_i hc;simp only[if_pos hc];exact(iK h.to (J:=fun _=>oQ P Eqs Sg An F' f g fn n') (JL:=oQ P Eqs Sg An F f g fn n) (fun sh k x y hy=>.now fun _=>qB h n n' sh k x y hn hy) _ _ _ _ hx).get
  ·cases hx
theorem CA:∀m,FLe (Fn P Eqs Sg An G m) (Fn P Eqs Sg An G (m+1))
 |0,f,g,x,y,hx=>by
  simp only[Fn]at hx ⊢
  split at hx
  ·rename_i u hu;(try simp only[hu]);exact hx
  ·cases hx
 |m+1,f,g,x,y,hx=>by
  rw[Fn]at hx ⊢
  split at hx
  ·rename_i u hu;(try simp only[hu]);exact hx
  ·rename_i hu
   try simp only[hu]
   exact RZ (CA m) (Nat.le_succ m) hx
theorem CB{m m':Nat}(h:m≤m'):FLe (Fn P Eqs Sg An G m) (Fn P Eqs Sg An G m'):=by
 induction h with
 |refl=>exact fun _ _ _ _ h=>h
 |step _ ih=>exact fun f g x y hx=>CA _ f g x y (ih f g x y hx)
variable (P Eqs Sg An G) in
open Classical in
noncomputable def Fix:FT:=fun f g x=>if h:∃m y,Fn P Eqs Sg An G m f g x=some y then some (Classical.choose (Classical.choose_spec h)) else none
theorem I2:To (Fn P Eqs Sg An G) (Fix P Eqs Sg An G):=fun f g x y hy=>by
 unfold Fix at hy
 split at hy
 ·rename_i h
  cases hy
  exact⟨Classical.choose h,fun m' hm=>CB hm _ _ _ _ (Classical.choose_spec (Classical.choose_spec h))⟩
 ·cases hy
theorem UP{m:Nat}{f:FuncId}{g:aX}{x:g.A}{y:g.B}(h:Fn P Eqs Sg An G m f g x=some y):Fix P Eqs Sg An G f g x=some y:=by
 have he:∃m y,Fn P Eqs Sg An G m f g x=some y:=⟨m,y,h⟩
 cases hy:Fix P Eqs Sg An G f g x with
 |none=>unfold Fix at hy;rw[dif_pos he]at hy;cases hy
 |some y' =>obtain⟨m1,h1⟩:=I2 f g x y' hy;have h2:=h1 (max m m1) (by omega);have h3:=CB (show m≤max m m1 by omega) f g x y h;rw[h2]at h3;exact h3
variable (P Eqs Sg An G) in
open Classical in
noncomputable def Lp(f:FuncId)(g:aX)(fn:Func)(sh:Shape)(k:List Item)(x:sh.T):Option g.B :=if h:∃m y,oQ P Eqs Sg An (Fn P Eqs Sg An G m) f g fn m sh k x=some y then some (Classical.choose (Classical.choose_spec h)) else none
theorem UQ{f:FuncId}{g:aX}{fn:Func}:ToJ (fun m=>oQ P Eqs Sg An (Fn P Eqs Sg An G m) f g fn m) (Lp P Eqs Sg An G f g fn):=fun sh k x y hy=>by
 unfold Lp at hy
 split at hy
 ·rename_i h
  cases hy
  exact⟨Classical.choose h,fun m' hm=>qB (CB hm) _ _ _ _ _ _ hm (Classical.choose_spec (Classical.choose_spec h))⟩
 ·cases hy
theorem aeG{m:Nat}{f:FuncId}{g:aX}{fn:Func}{sh:Shape}{k:List Item}{x:sh.T}{y:g.B}(h:oQ P Eqs Sg An (Fn P Eqs Sg An G m) f g fn m sh k x=some y):Lp P Eqs Sg An G f g fn sh k x=some y:=by
 have he:∃m y,oQ P Eqs Sg An (Fn P Eqs Sg An G m) f g fn m sh k x=some y:=⟨m,y,h⟩
 cases hy:Lp P Eqs Sg An G f g fn sh k x with
 |none=>unfold Lp at hy;rw[dif_pos he]at hy;cases hy
 |some y' =>obtain⟨m1,h1⟩:=UQ sh k x y' hy;have h2:=h1 (max m m1) (by omega);have h3:=qB (CB (show m≤max m m1 by omega)) m (max m m1) sh k x y (by omega) h;exact h2.symm.trans h3
theorem PI{f:FuncId}{g:aX}{x:g.A}{y:g.B}{fn:Func}{c:Code}(hG:G f g=none)(hb:body P (f%1000)=some (fn,c))(hc:(decide (g.ps.length≤fn.ntmps)&&decide (g.bs.length≤8))=true) (h:aI P Eqs Sg (Fix P Eqs Sg An G) fn.ntmps (An f) (Lp P Eqs Sg An G f g fn) (th P g fn) fuel [.code c] (entry g x)=some y):Fix P Eqs Sg An G f g x=some y:=by obtain⟨m,hm⟩:=iK (I2 (P:=P) (Eqs:=Eqs) (Sg:=Sg) (An:=An) (G:=G)) (UQ (f:=f) (g:=g) (fn:=fn)) _ _ _ _ h;refine UP (m:=m+1) ?_;simp only[Fn,hG];unfold No;simp only[hb,if_pos hc];exact hm m (abZ _)
theorem Hr{f:FuncId}{g:aX}{x:g.A}{y:g.B}{u:g.A→Option g.B}(hG:G f g=some u)(h:u x=some y):Fix P Eqs Sg An G f g x=some y:=by refine UP (m:=0) ?_;simp only[Fn,hG];exact h
theorem UR{f:FuncId}{g:aX}{fn:Func}{sh:Shape}{c:Code}{k:List Item}{x:sh.T}{y:g.B} (h:aI P Eqs Sg (Fix P Eqs Sg An G) fn.ntmps (An f) (Lp P Eqs Sg An G f g fn) (th P g fn) fuel (.code c::.inLoop c::k) (aA sh x)=some y):Lp P Eqs Sg An G f g fn sh (.inLoop c::k) x=some y:=by obtain⟨m,hm⟩:=iK (I2 (P:=P) (Eqs:=Eqs) (Sg:=Sg) (An:=An) (G:=G)) (UQ (f:=f) (g:=g) (fn:=fn)) _ _ _ _ h;refine aeG (m:=m+1) ?_;simp only[oQ];refine(iK (L:=Fn P Eqs Sg An G m) (FLe.to (CA m)) (J:=fun _=>oQ P Eqs Sg An (Fn P Eqs Sg An G (m+1)) f g fn m) (JL:=oQ P Eqs Sg An (Fn P Eqs Sg An G m) f g fn m) (fun sh k x y hy=>.now fun _=>qB (CA m) m m sh k x y (abZ _) hy) _ _ _ _ (hm m (abZ _))).get
theorem CC(hX:∀f g u,Sg f=some g→g.x=some u→jM P (f%1000) u)(Gc:∀t k,Eqs t=some k→nK P t k)(RH:∀f g,Sg f=some g→kj P (f%1000))(hm:P.follows .mixedOrders=true) (hG:∀f g u x y,Sg f=some g→G f g=some u→u x=some y→Hd P f g x y) {f:FuncId} {g:aX} {x:g.A} {y:g.B} (hs:Sg f=some g) (h:Fix P Eqs Sg An G f g x=some y):Hd P f g x y:=by obtain⟨m,YD⟩:=I2 f g x y h;exact K0 hX Gc RH hm hG m f g x y hs (YD m (abZ _))
end
end Go.Vs
namespace Go.Vs
open Go.Proofs
abbrev ab:=((Int×Int)×Int)
abbrev ID:=(Int×Int)
abbrev ai:=(ID×((List ab)×(ByteArray×Int)))
abbrev aj:=(ID×(ByteArray×Int))
abbrev ak:=((List ai)×(List aj))
abbrev aF:=(ab×ab)
abbrev StateT:=(ak×(List aF))
abbrev lW:=(ID×ab)
abbrev aE:=(Int×(ID×(ID×(ID×(lW×(lW×(Bool×(ByteArray×Int))))))))
abbrev ba:=((List ai)×((List aj)×((List aF)×Unit)))
abbrev lI{α:Type}(l:List α):Int:=((l.length:Nat):Int)
abbrev wI(n:Int):Int:=IntKind.wrap .i64 n
abbrev OI:ID:=(0,0)
abbrev OD:ab:=(OI,0)
abbrev OC:lW:=(OI,OD)
abbrev OB:ByteArray:=⟨#[]⟩
abbrev OS:StateT:=(([],[]),[])
abbrev OW:ba:=([],([],([],())))
abbrev k13:K:=(.pair .str (.int .u64))
abbrev jP:K:=(.pair (.int .i64) (.int .i64))
abbrev k68:K:=(.pair .str (.pair (.int .i64) .bool))
abbrev bA:K:=(.pair jP (.int .i64))
abbrev k7:K:=(.pair (.int .i64) (.pair (.int .i64) (.pair .bool (.int .u8))))
abbrev fg:K:=(.pair jP (.pair .str (.int .i64)))
abbrev R1:K:=(.pair jP bA)
abbrev dd:K:=(.pair bA bA)
abbrev dR:K:=(.pair jP (.pair (.sl bA) (.pair .str (.int .i64))))
abbrev eV:K:=(.pair (.sl dR) (.sl fg))
abbrev hZ:K:=(.pair eV (.sl dd))
abbrev ij:K:=(.pair (.int .i64) (.pair jP (.pair jP (.pair jP (.pair R1 (.pair R1 (.pair .bool (.pair .str (.int .i64)))))))))
abbrev mI:K:=(.one (.sl ij))
def rN(xs:List ai)(ys:List aj):Bool:=decide (xs.length≤50000000)&&(decide (ys.length≤50000000)&&xs.all fun v=>decide (v.2.1.length≤50000000))
def I3(h:Heap)(id:Nat):List AV→Option (Bool×bZ)
 |[.agg [.bY a,.bY b]]=>match fk h (.row 52 dR) (.bY a),fk h (.row 118 fg) (.bY b) with
  |some xs,some ys=>if a=b then none else some (rN xs ys,.new (.agg [.bY (id+128),.bY (id+129)]) [(id+128,.own (.row 52 dR) xs),(id+129,.own (.row 118 fg) ys)])
  |_,_=>none
 |_=>none
abbrev aen(a:List PK)(b:List RK):aX:={ ps:=a,bs:=[],rs:=b }
abbrev aet:K:=.int .i64
def K2:=aen [.val hZ,.val ij] [.val hZ,.val aet]
def K3:=aen [.val hZ,.val ij] [.val hZ,.val aet]
def US:=aen [.val hZ,.val hZ] [.val .bool]
def mA:=aen [.val eV,.val jP] [.val dR,.val .bool]
def D5:=aen [.val jP] [.val .bool]
def rO:=aen [.val eV,.val bA] [.val jP,.val .bool]
def vz:=aen [.val eV,.val jP] [.val fg,.val .bool]
def K4:=aen [.val eV,.val bA] [.val (.sl bA)]
def GB:=aen [.val bA] [.val bA]
def tG:=aen [.val (.sl bA),.val bA] [.val aet]
def NZ:=aen [.val (.sl bA),.val bA] [.val bA,.val .bool]
def B5:=aen [.val eV,.val eV] [.val .bool]
def I4:=aen [.val .str] [.val .bool]
def R4:=aen [.val aet] [.val .bool]
def K5:=aen [.val hZ,.val mI] [.val hZ,.val aet]
def K6:=aen [.val eV] [.own (.row 50 (.sl bA))]
def K7:=aen [.val eV] [.val aet]
def I5:=aen [.val hZ,.val mI] [.val hZ,.val aet]
def B6:=aen [.val hZ,.val mI] [.val hZ]
def N0:=aen [.val hZ,.val mI] [.val hZ]
def GC:=aen [.val eV] [.agg [.own (.row 52 dR),.own (.row 118 fg)]]
def K8:=aen [.val mI] [.val aet]
def N1:=aen [.val ij] [.val aet]
def GD:=aen [.val hZ,.val (.sl ij)] [.val hZ,.val aet]
def R5:=aen [.val ij] [.val aet]
def I6:=aen [.val eV,.val dR] [.val eV]
def rP:=aen [.val eV,.val jP,.val jP] [.val eV]
def UT:=aen [.val hZ,.val ij] [.val hZ,.val aet]
def UU:=aen [.val hZ,.val ij] [.val hZ,.val aet]
def UW:=aen [.val hZ,.val ij] [.val hZ,.val aet]
def B7:=aen [.val hZ,.val ij] [.val hZ,.val aet]
def D6:=aen [.val hZ,.val ij] [.val hZ,.val aet]
def I7:=aen [.val (.sl dd),.val (.sl dd)] [.val .bool]
def R6:=aen [.val eV,.val bA] [.val bA,.val .bool]
def GF:=aen [.val eV,.val jP] [.val aet]
def vA:=aen [.val eV] [.own (.row 3 aet)]
def K9:=aen [.val (.sl bA),.val (.sl bA)] [.val .bool]
def La:=aen [.val mI] [.val aet]
def I8:=aen [.val eV] [.own (.row 33 bA)]
def GG:=aen [.val eV] [.agg [.own (.row 52 dR),.own (.row 118 fg)]]
def I9:=aen [.val (.sl dd)] [.own (.row 54 dd)]
def R7:=aen [.val bA,.val bA] [.val aet]
def Lb:=aen [.val eV] [.val aet]
def UX:=aen [.val ij] [.val ij,.val aet]
def D7:aX:={ ps:=[.ref,.val ij],bs:=[.box 155 [.own (.row 52 dR),.own (.row 118 fg),.val (.sl dd)]],rs:=[.val aet] }
def R8:=aen [.val ij] [.val ij]
def R9:=aen [.val R1] [.val .bool]
def Lc:=aen [.val jP,.val jP] [.val aet]
def Sa:=aen [.val hZ,.val R1] [.val R1,.val aet]
def B8:=aen [.val eV,.val fg] [.val eV]
def B9:=aen [.val eV,.val R1,.val bA] [.val eV]
def Ca:=aen [.val (.sl dd),.val dd] [.val (.sl dd)]
def Sb:=aen [.val eV,.val bA] [.val bA]
def Sc:=aen [.val eV,.val bA] [.val eV]
def Ld:=aen [.val eV,.val bA,.val bA] [.val eV]
def sN:=aen [.val (.sl bA)] [.own (.row 33 bA)]
def UY:=aen [.val eV,.val bA] [.val bA,.val .bool]
def Sd:=aen [.val (.sl dR)] [.own (.row 52 dR)]
def Se:=aen [.val (.sl fg)] [.own (.row 118 fg)]
def Cb:=aen [.val (.sl bA)] [.own (.row 33 bA)]
def Ja:=aen [.val eV] [.val aet,.val aet,.val aet,.val aet]
def tH:=aen [.val jP] [.val .bool]
def GH:=aen [.val R1] [.val .bool]
def Ac:=aen [.val .str] [.val .bool]
def Le:=aen [.val aet] [.val .bool]
def Lf:aX:={ ps:=[.ref,.val dR],bs:=[.box 155 [.own (.row 52 dR),.own (.row 118 fg),.val (.sl dd)]],rs:=[.val aet] }
def UZ:aX:={ ps:=[.ref,.val ij],bs:=[.box 155 [.own (.row 52 dR),.own (.row 118 fg),.val (.sl dd)]],rs:=[.val aet] }
def qC:aX:={ ps:=[.ref,.val ij],bs:=[.box 155 [.own (.row 52 dR),.own (.row 118 fg),.val (.sl dd)]],rs:=[.val aet] }
def D8:aX:={ ps:=[.ref,.val ij],bs:=[.box 155 [.own (.row 52 dR),.own (.row 118 fg),.val (.sl dd)]],rs:=[.val aet] }
def Cc:aX:={ ps:=[.ref,.val ij],bs:=[.box 155 [.own (.row 52 dR),.own (.row 118 fg),.val (.sl dd)]],rs:=[.val aet] }
def tI:aX:={ ps:=[.ref,.val ij],bs:=[.box 155 [.own (.row 52 dR),.own (.row 118 fg),.val (.sl dd)]],rs:=[.val aet] }
def U3:aX:={ ps:=[.ref,.val ij],bs:=[.box 155 [.own (.row 52 dR),.own (.row 118 fg),.val (.sl dd)]],rs:=[.val aet] }
def U4:=aen [.val bA] [.val .bool]
def Lg:=aen [.val hZ,.val bA] [.val bA]
def GI:=aen [.val eV,.val jP,.val (.sl bA)] [.val eV]
def By:=aen [.val (.sl bA),.val bA,.val bA] [.own (.row 33 bA)]
def vW:=aen [.val (.sl dd),.val bA] [.val bA,.val .bool]
def yi:=aen [.val (.sl bA),.val bA] [.own (.row 33 bA)]
def Lh:=aen [.val (.sl bA),.val bA,.val bA] [.own (.row 33 bA)]
def Li:=aen [.val (.sl bA),.val bA] [.val bA,.val .bool]
def Lj:=aen [.val bA] [.val .bool]
def sH:aX:={ ps:=[.ref,.val jP],bs:=[.box 155 [.own (.row 52 dR),.own (.row 118 fg),.val (.sl dd)]],rs:=[.val aet,.val .bool] }
def aaL:aX:={ ps:=[],bs:=[],rs:=[],x:=some (TU 52 dR) }
def aaM:aX:={ ps:=[],bs:=[],rs:=[],x:=some (Yp 52 dR) }
def Bz:aX:={ ps:=[.ref,.val jP],bs:=[.box 155 [.own (.row 52 dR),.own (.row 118 fg),.val (.sl dd)]],rs:=[.val aet] }
def D9:=aen [.val jP] [.val bA,.val bA]
def Ll:=aen [.val hZ,.val R1] [.val R1,.val aet]
def Ea:=aen [.val (.sl bA),.val bA,.val bA] [.own (.row 33 bA)]
def Eb:=aen [.val eV] [.val .bool]
def pe:aX:={ ps:=[.ref,.val jP],bs:=[.box 155 [.own (.row 52 dR),.own (.row 118 fg),.val (.sl dd)]],rs:=[.val aet,.val .bool] }
def Ec:aX:={ ps:=[.ref,.val bA,.val bA],bs:=[.box 155 [.own (.row 52 dR),.own (.row 118 fg),.val (.sl dd)]],rs:=[] }
def Ed:aX:={ ps:=[.ref,.val bA],bs:=[.box 155 [.own (.row 52 dR),.own (.row 118 fg),.val (.sl dd)]],rs:=[.val bA] }
def n8:aX:={ ps:=[.ref,.val bA],bs:=[.box 155 [.own (.row 52 dR),.own (.row 118 fg),.val (.sl dd)]],rs:=[.fY 0 [(0,5,0)]] }
def Ee:=aen [.val (.sl bA),.val bA] [.own (.row 33 bA)]
def aaN:aX:={ ps:=[],bs:=[],rs:=[],x:=some (Yp 118 fg) }
def vX:=aen [.val (.sl bA),.val bA,.val bA] [.own (.row 33 bA)]
def qD:=aen [.val bA] [.val bA]
def tJ:=aen [.val (.sl bA)] [.own (.row 33 bA)]
def Lm:aX:={ ps:=[.ref,.val ij],bs:=[.box 155 [.own (.row 52 dR),.own (.row 118 fg),.val (.sl dd)]],rs:=[.fY 0 [(0,5,3),(1,4,2)],.fY 0 [(0,5,4),(1,4,3)]] }
def Hs:=aen [.val dR,.val jP] [.val aet]
def Ef:=aen [.val jP,.val jP] [.val aet]
def aaO:aX:={ ps:=[],bs:=[],rs:=[],x:=some (TU 118 fg) }
def vY:=aen [.val eV,.val jP] [.val dR,.val .bool]
def BA:=aen [.val hZ,.val bA] [.val bA]
def yj:=aen [.val (.sl bA),.val bA] [.val .bool]
def oa:=aen [.val (.sl bA),.val bA] [.val aet]
def qE:=aen [.val (.sl (.sl bA))] [.own (.row 33 bA)]
def Ln:=aen [.val eV] [.val aet]
def Ht:=aen [.val fg,.val jP] [.val aet]
def Lo:=aen [.val (.sl dd),.val dd] [.own (.row 54 dd)]
def Eg:=aen [.val (.sl bA),.val bA] [.val bA,.val .bool]
def Hu:=aen [.val bA,.val bA] [.val aet]
def qF:=aen [.val (.sl (.sl bA))] [.own (.row 33 bA)]
def yk:=aen [.val (.sl aet)] [.val aet]
def Eh:=aen [.val aet,.val aet] [.val aet]
def Lq:=aen [.val dR] [.val jP]
def vZ:=aen [.val eV,.val bA] [.val jP,.val .bool]
def Lr:=aen [.val (.sl dd),.val bA] [.val bA,.val .bool]
def Ls:=aen [.val eV] [.val aet,.val aet,.val aet,.val aet]
def Hv:=aen [.val dd,.val bA] [.val aet]
def aaP:aX:={ ps:=[],bs:=[],rs:=[],x:=some (TU 54 dd) }
def Ei:=aen [.val (.sl bA),.val bA,.val aet] [.val bA,.val .bool]
def aaQ:aX:={ ps:=[],bs:=[],rs:=[],x:=some (Pw 33 bA) }
def Ej:=aen [.val aet] [.val .bool]
def Lt:aX:={ ps:=[.val dd,.ref],bs:=[.box 33 [.val aet,.val aet,.val aet]],rs:=[.val .bool] }
def Lu:=aen [.val dR] [.val .bool]
def BB:=aen [.val eV] [.own (.row 50 (.sl bA))]
def BC:=aen [.val eV] [.val aet]
def yl:=aen [.val eV] [.own (.row 33 bA)]
def aaR:=aen [.val eV] [.own (.row 28 (.sl jP))]
def Hw:=aen [.val eV,.val bA] [.val bA,.val .bool]
def ju:=aen [.val eV] [.own (.row 3 aet)]
def BD:=aen [.val eV,.val bA] [.val bA,.val .bool]
def Lv:aX:={ ps:=[.own,.val aet,.val aet],bs:=[.own (.row 3 aet)],rs:=[] }
def tK:aX:={ ps:=[.own,.val aet],bs:=[.own (.row 3 aet)],rs:=[.val aet] }
def Lw:=aen [.val (.sl bA),.val bA] [.val bA,.val .bool]
def kq:=aen [.val (.sl dR),.val jP,.Gi 207 0] [.val aet,.val .bool]
def kr:=aen [.val (.sl fg),.val jP,.Gi 214 0] [.val aet,.val .bool]
def lX:=aen [.val (.sl bA),.Gi 195 0] [.val bA]
def lY:=aen [.val (.sl dR),.Gi 109 0,.val jP] [.val dR,.val .bool]
def ku:=aen [.val (.sl dd),.val bA,.Gi 232 0] [.val aet,.val .bool]
def kx:aX:={ ps:=[.val (.sl dd),.Gi 245 1],bs:=[.box 33 [.val bA]],rs:=[.val aet] }
def lZ:=aen [.val (.sl dR),.Gi 239 0] [.val aet]
def Lx:aX:={ ps:=[],bs:=[],rs:=[],x:=some I3 }
def U5:=aen [] []
abbrev k98:K:=(.pair mI jP)
abbrev k99:K:=(.pair hZ (.pair aet (.sl mI)))
abbrev iW:=(StateT×(Int×((List (List aE))×Unit)))
abbrev Q40:=((List aE)×ID)
abbrev Q41:=(((List (List aE))×(Int×Unit))×(iW×Unit))
abbrev Q42:=((StateT×Unit)×(iW×Unit))
abbrev Q0:=((Bool×Unit)×Unit)
abbrev Q1:=((StateT×(Int×Unit))×Unit)
abbrev Q2:=((Int×Unit)×Unit)
abbrev Q3:=(((List aE)×Unit)×Unit)
abbrev Q4:=((StateT×Unit)×Unit)
abbrev Q5:=((ak×Unit)×Unit)
abbrev Q6:=(((List ab)×Unit)×Unit)
abbrev Q7:=((ai×(Bool×Unit))×Unit)
abbrev Q8:=(List aE)
abbrev Q9:=((Int×Unit)×(iW×Unit))
abbrev TH:=((aj×(Bool×Unit))×Unit)
abbrev Jb:=((ab×Unit)×Unit)
abbrev Ng:=((ab×(Bool×Unit))×Unit)
abbrev Sf:=((ID×(Bool×Unit))×Unit)
abbrev N2:=((Int×(Bool×Unit))×(ba×Unit))
abbrev U6:=((StateT×(aE×Unit))×Unit)
abbrev Ye:=((StateT×((List aE)×Unit))×Unit)
abbrev Q17:=(((List (List aE))×Unit)×Unit)
abbrev Yf:=(((List aF)×Unit)×Unit)
abbrev U7:=((Int×Unit)×(ba×Unit))
abbrev YV:=((ak×(ab×Unit))×Unit)
abbrev YW:=(((List ab)×(ab×Unit))×Unit)
abbrev Q22:=((aE×Unit)×(ba×Unit))
abbrev Q23:=((StateT×Unit)×((List (List aE))×Unit))
abbrev Q24:=(((List aE)×(Int×Unit))×Unit)
abbrev Q25:=(((List (List ab))×Unit)×Unit)
abbrev Q26:=((((List ai)×((List aj)×Unit))×Unit)×Unit)
abbrev Q27:=((lW×Unit)×Unit)
abbrev Q28:=((Int×(Int×Unit))×(iW×Unit))
abbrev Q29:=((StateT×((List (List aE))×Unit))×Unit)
abbrev Q30:=((ak×(ID×Unit))×Unit)
abbrev Q31:=(((Option ((Fin 1)×Nat))×Unit)×(ba×Unit))
abbrev Q32:=(Unit×(iW×Unit))
abbrev Q33:=((ab×(ab×Unit))×Unit)
abbrev Q34:=(((List ab)×(ab×(ab×Unit)))×Unit)
abbrev Q35:=((Int×Unit)×((List Int)×Unit))
abbrev Q36:=((StateT×(Int×Unit))×(iW×Unit))
abbrev Q37:=(((List Bool)×Unit)×((List (List aE))×Unit))
abbrev Q38:=((Bool×(Int×Unit))×(((StateT×Unit)×((aE×Unit)×(ba×(((List ai)×((List aj)×Unit))×Unit))))×Unit))
abbrev Q39:=((Int×Unit)×((ba×((ab×Unit)×((ab×Unit)×((ab×Unit)×Unit))))×Unit))
def aqF(_:Heap)(id:Nat):List AV→Option (Bool×bZ)
 |[]=>some (true,.new (.ref (id+128) 0 0 0) [(id+128,.box 100 (enc k99 (qh k99)))])
 |_=>none
def akr(h:Heap)(_:Nat):List AV→Option (Bool×bZ)
 |[.ref i 0 0 0]=>match C4 h i 100 with
  |some cs=>match ep k99 cs with
   |some x=>some (true,.val (.int .i64 x.2.1))
   |none=>none
  |none=>none
 |_=>none
def aoP(h:Heap)(id:Nat):List AV→Option (Bool×bZ)
 |[.ref i 0 0 0]=>match C4 h i 100 with
  |some cs=>match ep k99 cs with
   |some x=>some (true,.new (.ref (id+128) 0 0 0) [(id+128,.box 100 (enc k99 x))])
   |none=>none
  |none=>none
 |_=>none
def Hy:=aen [.val (.sl mI),.val (.sl mI)] [.val .bool]
def Ly:=aen [] [.val .bool]
def tL:=aen [.val (.sl mI)] [.val (.sl mI)]
def BE:=aen [.val hZ,.val (.sl mI)] [.val hZ]
def LA:=aen [.val hZ,.val ij] [.own (.row 37 ij)]
def BF:=aen [.val hZ,.val mI] [.own (.row 37 ij),.val aet]
def LB:=aen [.val hZ,.val ij] [.own (.row 37 ij)]
def BG:=aen [.val hZ,.val mI] [.own (.row 37 ij),.val aet]
def BH:=aen [.val hZ,.val (.sl ij)] [.val hZ,.val aet]
def BI:=aen [.val hZ,.val (.sl ij)] [.val hZ,.val aet]
def LC:=aen [.val hZ,.val (.sl mI)] [.val hZ,.val aet]
def BJ:=aen [.val hZ,.val (.sl mI)] [.val hZ,.val aet]
def Ek:=aen [.val aet] [.val mI]
def LD:=aen [.val hZ,.val mI] []
def LF:aX:={ ps:=[.val hZ,.val mI,.ref],bs:=[.box 46 [.own (.row 4 .bool)]],rs:=[] }
def v5:=aen [.val jP,.val .bool,.val .str,.val aet] [.own (.row 37 ij)]
def LG:=aen [.val eV,.val ij] [.own (.row 37 ij)]
def qG:=aen [.val eV,.val ij] [.own (.row 37 ij)]
def LH:=aen [.val eV,.val ij] [.own (.row 37 ij)]
def mJ:=aen [.val jP,.val .bool,.val .str,.val aet] [.own (.row 37 ij)]
def Hz:=aen [.val hZ,.val ij] [.own (.row 37 ij)]
def El:=aen [.val hZ,.val ij] [.own (.row 37 ij)]
def LI:aX:={ ps:=[.val hZ,.val mI,.ref],bs:=[.box 25 [.own (.row 37 ij)]],rs:=[] }
def Em:=aen [.val eV,.val jP] [.val fg,.val .bool]
def HA:=aen [.val eV,.val bA,.val bA] [.val R1]
def pf:=aen [.val (.sl (.sl ij))] [.own (.row 37 ij)]
def HB:=aen [.val jP,.val (.sl bA),.val bA] [.val R1]
def LJ:=aen [.val fg] [.val jP]
def l6:aX:={ ps:=[.val hZ,.val (.sl mI),.Gi 99 1],bs:=[.box 25 [.own (.row 37 ij)]],rs:=[.val hZ] }
def l8:=aen [.val (.sl fg),.Gi 138 0,.val jP] [.val fg,.val .bool]
def tM:aX:={ ps:=[.val hZ,.own],bs:=[.own (.row 27 mI)],rs:=[.val hZ] }
def tN:aX:={ ps:=[.val hZ,.own],bs:=[.own (.row 27 mI)],rs:=[.own (.row 4 .bool)] }
def l9:aX:={ ps:=[.val hZ,.own,.Gi 61 0],bs:=[.own (.row 27 mI)],rs:=[.val hZ] }
def ma:aX:={ ps:=[.val hZ,.own,.Gi 62 1],bs:=[.own (.row 27 mI),.box 46 [.own (.row 4 .bool)]],rs:=[.val hZ] }
def aaT:aX:={ ps:=[],bs:=[],rs:=[],x:=some (Pw 37 ij) }
def Sh:=aen [] []
def Si:=aen [] []
def U8:=aen [] []
def Sj:=aen [] []
def sgs:List (Nat×aX):=[(73,K2),(45,K3),(22,US),(79,mA),(87,D5),(124,rO),(92,vz),(192,K4),(121,GB),(144,tG),(148,NZ),(55,B5),(91,I4),(90,R4),(63,K5),(164,K6),(165,K7),(49,I5),(102,B6),(64,N0),(21,GC),(69,K8),(104,N1),(103,GD),(46,R5),(80,I6),(81,rP),(82,UT),(83,UU),(84,UW),(85,B7),(86,D6),(65,I7),(216,R6),(217,GF),(193,vA),(98,K9),(66,La),(191,I8),(96,GG),(97,I9),(71,R7),(107,Lb),(132,UX),(131,D7),(88,R8),(89,R9),(105,Lc),(114,Sa),(115,B8),(116,B9),(117,Ca),(118,Sb),(119,Sc),(120,Ld),(122,sN),(234,UY),(127,Sd),(128,Se),(110,Cb),(136,Ja),(159,tH),(160,GH),(161,Ac),(162,Le),(152,Lf),(153,UZ),(154,qC),(155,D8),(156,Cc),(157,tI),(158,U3),(123,U4),(143,Lg),(145,GI),(146,By),(147,vW),(126,yi),(149,Lh),(248,Li),(190,Lj),(175,sH),(176,aaL),(177,aaM),(178,Bz),(179,D9),(180,Ll),(181,Ea),(172,Eb),(182,pe),(183,Ec),(184,Ed),(185,n8),(141,Ee),(186,aaN),(187,vX),(188,qD),(169,tJ),(189,Lm),(207,Hs),(208,Ef),(211,aaO),(74,vY),(212,BA),(166,yj),(168,oa),(170,qE),(204,Ln),(214,Ht),(215,Lo),(140,Eg),(195,Hu),(196,qF),(218,yk),(219,Eh),(109,Lq),(139,vZ),(230,Lr),(226,Ls),(232,Hv),(233,aaP),(167,Ei),(220,aaQ),(235,Ej),(245,Lt),(239,Lu),(240,BB),(241,BC),(249,yl),(251,aaR),(255,Hw),(256,ju),(258,BD),(259,Lv),(260,tK),(261,Lw),(208206,kq),(215213,kr),(196194,lX),(110108,lY),(233231,ku),(246244,kx),(240238,lZ),(500096,Lx),(900025,U5),(13,Hy),(15,Ly),(16,tL),(20,BE),(44,LA),(48,BF),(51,LB),(52,BG),(53,BH),(54,BI),(56,LC),(57,BJ),(59,Ek),(61,LD),(62,LF),(75,v5),(76,LG),(77,qG),(78,LH),(93,mJ),(94,Hz),(95,El),(99,LI),(111,Em),(112,HA),(113,pf),(125,HB),(138,LJ),(100060,l6),(139137,l8),(500018,tM),(500019,tN),(562060,l9),(563060,ma),(142,aaT),(2514003,Sh),(3537003,Si),(900022,U8),(2769003,Sj)]
def Sg(f:FuncId):Option aX:=(sgs.find? (fun p=>p.1==f)).map (fun p=>p.2)
def eqs:List (Nat×K):=[(31,jP),(33,bA),(35,R1),(37,ij),(118,fg),(54,dd)]
def Eqs(t:TypeId):Option K:=(eqs.find? (fun p=>p.1==t)).map (fun p=>p.2)
def En:Shape:=⟨[(6,.int .i64)],[(.slot 2,20000,.box 41 [.val eV]),(.slot 3,20001,.box 31 [.val jP]),(.slot 4,20002,.box 52 [.val aet,.val aet,.own (.row 33 bA),.val .str,.val aet])],[],[]⟩
def Eo:Shape:=⟨[(6,.int .i64)],[(.slot 2,20000,.box 41 [.val eV]),(.slot 3,20001,.box 33 [.val bA]),(.slot 4,20002,.box 31 [.val jP])],[],[]⟩
def Ep:Shape:=⟨[(6,.int .i64)],[(.slot 2,20000,.box 41 [.val eV]),(.slot 3,20001,.box 31 [.val jP]),(.slot 4,20002,.box 118 [.val fg])],[],[]⟩
def Er:Shape:=⟨[],[(.slot 2,20000,.box 41 [.val eV]),(.slot 3,20001,.box 33 [.val bA]),(.slot 6,20002,.box 33 [.val bA])],[(5,31000,(.row 33 bA))],[]⟩
def Es:Shape:=⟨[(0,.sl bA),(5,.int .i64)],[(.slot 3,20000,.box 33 [.val bA])],[],[]⟩
def Et:Shape:=⟨[(5,.int .i64)],[(.slot 2,20000,.box 41 [.val eV]),(.slot 3,20001,.box 41 [.val eV])],[],[]⟩
def Eu:Shape:=⟨[(9,.int .i64)],[(.slot 2,20000,.box 41 [.val eV]),(.slot 3,20001,.box 41 [.val eV])],[],[]⟩
def Ev:Shape:=⟨[(0,.str),(3,.int .i64)],[],[],[]⟩
def Ad:Shape:=⟨[(6,.int .i64)],[(.slot 1,20000,.box 41 [.val eV])],[(3,31000,(.row 50 (.sl bA))),(4,31001,(.row 33 bA)),(5,31002,(.row 33 bA))],[]⟩
def Ae:Shape:=⟨[(4,.int .i64),(5,.int .i64)],[],[(3,31000,(.row 3 aet))],[]⟩
def Ew:Shape:=⟨[(7,.int .i64)],[(.slot 2,20000,.box 44 [.val hZ]),(.slot 3,20001,.box 27 [.val mI]),(.slot 4,20002,.box 44 [.own (.row 52 dR),.own (.row 118 fg),.own (.row 54 dd)])],[],[]⟩
def Ex:Shape:=⟨[(4,.int .i64)],[(.slot 1,20000,.box 41 [.val eV]),(.slot 2,20001,.box 41 [.own (.row 52 dR),.own (.row 118 fg)]),(.slot 3,20002,.box 41 [.own (.row 52 dR),.own (.row 118 fg)])],[],[]⟩
def Ey:Shape:=⟨[(3,.int .i64)],[(.slot 1,20000,.box 27 [.val mI])],[],[]⟩
def Ez:Shape:=⟨[(18,.sl ij),(19,.int .i64),(20,.int .i64)],[(.slot 4,20000,.box 44 [.own (.row 52 dR),.own (.row 118 fg),.own (.row 54 dd)]),(.slot 6,20001,.box 155 [.own (.row 52 dR),.own (.row 118 fg),.val (.sl dd)])],[],[]⟩
def wW:Shape:=⟨[(6,.bool),(7,.int .i64)],[(.slot 2,20000,.box 41 [.val eV]),(.slot 3,20001,.box 52 [.val dR]),(.slot 4,20002,.box 41 [.own (.row 52 dR),.own (.row 118 fg)]),(.slot 5,20003,.box 41 [.own (.row 52 dR),.val (.sl fg)])],[],[]⟩
def Af:Shape:=⟨[(8,.int .i64)],[(.slot 3,20000,.box 41 [.val eV]),(.slot 4,20001,.box 31 [.val jP]),(.slot 5,20002,.box 31 [.val jP]),(.slot 6,20003,.box 41 [.own (.row 52 dR),.own (.row 118 fg)]),(.slot 7,20004,.box 41 [.own (.row 52 dR),.own (.row 118 fg)])],[],[]⟩
def Ag:Shape:=⟨[(9,.int .i64)],[(.slot 3,20000,.box 41 [.val eV]),(.slot 5,20001,.box 31 [.val jP]),(.slot 6,20002,.box 41 [.own (.row 52 dR),.own (.row 118 fg)]),(.slot 7,20003,.box 41 [.own (.row 52 dR),.own (.row 118 fg)])],[],[]⟩
def oc:Shape:=⟨[(12,.sl dd),(13,.int .i64)],[(.slot 4,20000,.box 44 [.own (.row 52 dR),.own (.row 118 fg),.own (.row 54 dd)]),(.slot 8,20001,.box 33 [.val bA]),(.slot 9,20002,.box 33 [.val bA]),(.slot 10,20003,.box 33 [.val bA]),(.slot 11,20004,.box 41 [.val eV])],[],[]⟩
def tO:Shape:=⟨[(7,.bool),(8,.int .i64)],[(.slot 2,20000,.box 44 [.val hZ]),(.slot 3,20001,.box 37 [.val ij]),(.slot 4,20002,.box 44 [.own (.row 52 dR),.own (.row 118 fg),.own (.row 54 dd)]),(.slot 6,20003,.box 41 [.own (.row 52 dR),.own (.row 118 fg)])],[],[]⟩
def tR:Shape:=⟨[(7,.bool),(9,.int .i64)],[(.slot 2,20000,.box 44 [.val hZ]),(.slot 3,20001,.box 37 [.val ij]),(.slot 4,20002,.box 44 [.own (.row 52 dR),.own (.row 118 fg),.own (.row 54 dd)]),(.slot 6,20003,.box 41 [.own (.row 52 dR),.own (.row 118 fg)])],[],[]⟩
def EA:Shape:=⟨[(0,.sl dd),(1,.sl dd),(5,.int .i64)],[],[],[]⟩
def EB:Shape:=⟨[(5,.int .i64)],[(.slot 2,20000,.box 41 [.val eV]),(.slot 3,20001,.box 31 [.val jP])],[],[]⟩
def EC:Shape:=⟨[(4,.int .i64)],[(.slot 1,20000,.box 41 [.val eV])],[(3,31000,(.row 3 aet))],[]⟩
def Ah:Shape:=⟨[(5,.int .i64)],[(.slot 1,20000,.box 41 [.val eV])],[(3,31000,(.row 3 aet))],[]⟩
def tS:Shape:=⟨[(5,.int .i64),(6,.int .i64)],[(.slot 1,20000,.box 41 [.val eV])],[(3,31000,(.row 3 aet))],[]⟩
def ED:Shape:=⟨[(0,.sl bA),(1,.sl bA),(5,.int .i64)],[],[],[]⟩
def EE:Shape:=⟨[(17,.sl ij),(18,.int .i64),(19,.int .i64)],[],[],[]⟩
def EF:Shape:=⟨[(4,.int .i64)],[(.slot 1,20000,.box 41 [.val eV])],[(3,31000,(.row 33 bA))],[]⟩
def EG:Shape:=⟨[(14,.int .i64),(15,.int .i64)],[(.slot 2,20000,.box 41 [.own (.row 52 dR),.own (.row 118 fg)]),(.slot 3,20001,.box 41 [.own (.row 52 dR),.own (.row 118 fg)])],[],[]⟩
def wX:Shape:=⟨[(6,.bool),(7,.int .i64)],[(.slot 2,20000,.box 41 [.val eV]),(.slot 3,20001,.box 118 [.val fg]),(.slot 4,20002,.box 41 [.own (.row 52 dR),.own (.row 118 fg)]),(.slot 5,20003,.box 41 [.val (.sl dR),.own (.row 118 fg)])],[],[]⟩
def mB:Shape:=⟨[(0,.sl dd),(8,.bool),(9,.int .i64)],[(.slot 3,20000,.box 54 [.val dd])],[(7,31000,(.row 54 dd))],[]⟩
def Ai:Shape:=⟨[(0,.sl bA),(3,.int .i64),(4,.int .i64)],[],[],[]⟩
def EH:Shape:=⟨[(0,.sl bA),(3,.int .i64),(6,.int .i64)],[],[(5,31000,(.row 33 bA))],[]⟩
def wY:Shape:=⟨[(6,.int .i64),(7,.int .i64)],[(.slot 1,20000,.box 41 [.val eV])],[],[]⟩
def Aj:Shape:=⟨[(0,.str)],[],[(6,31000,.qg)],[]⟩
def od:Shape:=⟨[(48,.int .i64),(49,.int .i64)],[(.slot 0,1000,.box 155 [.own (.row 52 dR),.own (.row 118 fg),.val (.sl dd)]),(.slot 5,20001,.box 44 [.val hZ]),(.slot 7,20002,.box 33 [.val bA])],[(9,31000,(.row 33 bA)),(47,31001,(.row 35 R1))],[]⟩
def Jc:Shape:=⟨[(5,.int .i64),(32,.int .i64),(33,.int .i64)],[(.slot 0,1000,.box 155 [.own (.row 52 dR),.own (.row 118 fg),.val (.sl dd)]),(.slot 7,20001,.box 33 [.val bA]),(.slot 8,20002,.box 33 [.val bA])],[(31,31000,(.row 33 bA))],[]⟩
def Ak:Shape:=⟨[(5,.int .i64),(47,.int .i64),(48,.int .i64)],[(.slot 0,1000,.box 155 [.own (.row 52 dR),.own (.row 118 fg),.val (.sl dd)])],[(46,31000,(.row 33 bA))],[]⟩
def pU:Shape:=⟨[(113,.int .i64)],[(.slot 0,1000,.box 155 [.own (.row 52 dR),.own (.row 118 fg),.val (.sl dd)]),(.slot 8,20001,.box 33 [.val bA]),(.slot 9,20002,.box 33 [.val bA]),(.slot 10,20003,.box 33 [.val bA])],[],[]⟩
def EI:Shape:=⟨[(5,.int .i64)],[(.slot 2,20000,.box 44 [.val hZ]),(.slot 3,20001,.box 33 [.val bA]),(.slot 4,20002,.box 33 [.val bA])],[],[]⟩
def Al:Shape:=⟨[(2,.sl bA),(8,.int .i64)],[(.slot 4,20000,.box 31 [.val jP]),(.slot 6,20001,.box 41 [.own (.row 52 dR),.own (.row 118 fg)]),(.slot 7,20002,.box 41 [.own (.row 52 dR),.own (.row 118 fg)])],[],[]⟩
def uU:Shape:=⟨[(0,.sl bA),(7,.int .i64),(9,.int .i64)],[(.slot 5,20000,.box 33 [.val bA])],[(8,31000,(.row 33 bA))],[]⟩
def ym:Shape:=⟨[(0,.sl dd),(6,.int .i64)],[(.slot 3,20000,.box 33 [.val bA]),(.slot 4,20001,.box 33 [.val bA])],[],[]⟩
def uV:Shape:=⟨[(0,.sl bA),(6,.int .i64)],[(.slot 3,20000,.box 33 [.val bA])],[(5,31000,(.row 33 bA))],[]⟩
def CD:Shape:=⟨[(7,.int .i64)],[(.slot 0,1000,.box 155 [.own (.row 52 dR),.own (.row 118 fg),.val (.sl dd)]),(.slot 3,20001,.box 33 [.val bA]),(.slot 4,20002,.box 33 [.val bA]),(.slot 5,20003,.box 33 [.val bA])],[],[]⟩
def yn:Shape:=⟨[(12,.int .i64),(13,.int .i64)],[(.slot 0,1000,.box 155 [.own (.row 52 dR),.own (.row 118 fg),.val (.sl dd)]),(.slot 3,20001,.box 33 [.val bA])],[],[]⟩
def yp:Shape:=⟨[(12,.int .i64),(13,.int .i64)],[(.slot 2,20000,.box 44 [.val hZ]),(.slot 3,20001,.box 33 [.val bA]),(.slot 4,20002,.box 33 [.val bA])],[],[]⟩
def yq:Shape:=⟨[(0,.sl bA),(7,.int .i64),(8,.int .i64)],[(.slot 3,20000,.box 33 [.val bA])],[],[]⟩
def yr:Shape:=⟨[(0,.sl (.sl bA)),(3,.int .i64),(9,.sl (.sl bA)),(10,.int .i64),(11,.int .i64)],[],[],[]⟩
def yu:Shape:=⟨[(25,.sl (.sl bA)),(26,.int .i64),(27,.int .i64)],[],[(6,31000,(.row 33 bA))],[]⟩
def CE:Shape:=⟨[(3,.int .i64),(6,.sl aet),(7,.int .i64),(8,.int .i64)],[],[],[]⟩
def yv:Shape:=⟨[(9,.sl dR),(10,.int .i64),(11,.int .i64)],[(.slot 3,20000,.box 33 [.val bA]),(.slot 4,20001,.box 31 [.val jP])],[],[]⟩
def yw:Shape:=⟨[(8,.sl fg),(9,.int .i64),(10,.int .i64)],[],[(3,31000,(.row 33 bA))],[]⟩
def uW:Shape:=⟨[(18,.sl dR),(19,.int .i64),(20,.int .i64)],[],[(3,31000,(.row 3 aet)),(4,31001,(.map bA aet))],[]⟩
def yx:Shape:=⟨[(5,.int .i64),(18,.sl dR),(19,.int .i64),(20,.int .i64),(30,.sl bA),(31,.int .i64),(32,.int .i64)],[],[(3,31000,(.row 3 aet)),(4,31001,(.map bA aet))],[]⟩
def rQ:Shape:=⟨[(4,.mp bA aet)],[],[(3,31000,(.row 3 aet)),(42,31001,(.iter bA aet))],[]⟩
def yy:Shape:=⟨[(61,.int .i64),(62,.int .i64)],[],[(3,31000,(.row 3 aet)),(13,31001,(.row 3 aet))],[]⟩
def yz:Shape:=⟨[(11,.sl dR),(12,.int .i64),(13,.int .i64)],[(.slot 3,20000,.box 33 [.val bA]),(.slot 4,20001,.box 33 [.val bA])],[],[]⟩
def uX:Shape:=⟨[(1,.int .i64)],[],[(0,1000,(.row 3 aet))],[]⟩
def jQ:Shape:=⟨[(0,.sl dR),(8,.int .i64),(9,.int .i64),(10,.int .i64)],[(.slot 4,20000,.box 31 [.val jP])],[],[(2,207,[])]⟩
def jR:Shape:=⟨[(0,.sl fg),(8,.int .i64),(9,.int .i64),(10,.int .i64)],[(.slot 4,20000,.box 31 [.val jP])],[],[(2,214,[])]⟩
def k9:Shape:=⟨[(0,.sl bA),(6,.int .i64)],[(.slot 4,20000,.box 33 [.val bA]),(.slot 5,20001,.box 33 [.val bA])],[],[(1,195,[])]⟩
def og:Shape:=⟨[(11,.sl dR),(12,.int .i64),(13,.int .i64)],[(.slot 5,20000,.box 31 [.val jP]),(.slot 6,20001,.box 52 [.val aet,.val aet,.own (.row 33 bA),.val .str,.val aet])],[],[(1,109,[])]⟩
def jS:Shape:=⟨[(0,.sl dd),(8,.int .i64),(9,.int .i64),(10,.int .i64)],[(.slot 4,20000,.box 33 [.val bA])],[],[(2,232,[])]⟩
def la:Shape:=⟨[(0,.sl dd),(7,.int .i64),(8,.int .i64)],[(.cap 1 0,1000,.box 33 [.val bA])],[],[(1,245,[1000])]⟩
def lf:Shape:=⟨[(5,.int .i64),(8,.sl dR),(9,.int .i64),(10,.int .i64)],[],[],[(1,239,[])]⟩
def rR:Shape:=⟨[(0,.sl mI),(4,.int .i64)],[],[(3,31000,(.row 27 mI))],[]⟩
def yD:Shape:=⟨[(1,.sl mI),(5,.int .i64)],[(.slot 2,20000,.box 44 [.val hZ]),(.slot 4,20001,.box 44 [.own (.row 52 dR),.own (.row 118 fg),.own (.row 54 dd)])],[],[]⟩
def yE:Shape:=⟨[(23,.sl ij),(24,.int .i64),(25,.int .i64)],[(.slot 2,20000,.box 44 [.val hZ])],[(8,31000,(.row 37 ij))],[]⟩
def yF:Shape:=⟨[(9,.int .i64)],[(.slot 2,20000,.box 44 [.val hZ]),(.slot 3,20001,.box 27 [.val mI])],[(8,31000,(.row 37 ij))],[]⟩
def yG:Shape:=⟨[(18,.sl ij),(19,.int .i64),(20,.int .i64)],[(.slot 4,20000,.box 44 [.val hZ]),(.slot 6,20001,.box 44 [.val hZ])],[],[]⟩
def yH:Shape:=⟨[(1,.sl ij),(6,.int .i64)],[(.slot 2,20000,.box 44 [.val hZ]),(.slot 4,20001,.box 44 [.own (.row 52 dR),.own (.row 118 fg),.own (.row 54 dd)])],[],[]⟩
def uY:Shape:=⟨[(1,.sl mI),(7,.int .i64)],[(.slot 2,20000,.box 44 [.val hZ]),(.slot 4,20001,.box 44 [.own (.row 52 dR),.own (.row 118 fg),.own (.row 54 dd)])],[(6,31000,(.row 37 ij))],[]⟩
def ky:Shape:=⟨[(32,.sl bA),(33,.int .i64),(34,.int .i64)],[(.slot 3,20000,.box 37 [.val ij]),(.slot 5,20001,.box 52 [.val dR]),(.slot 7,20002,.box 118 [.val fg]),(.slot 9,20003,.box 37 [.val ij])],[],[]⟩
def uZ:Shape:=⟨[(0,.sl (.sl ij)),(3,.int .i64),(9,.sl (.sl ij)),(10,.int .i64),(11,.int .i64)],[],[],[]⟩
def rS:Shape:=⟨[(25,.sl (.sl ij)),(26,.int .i64),(27,.int .i64)],[],[(6,31000,(.row 37 ij))],[]⟩
def oi:Shape:=⟨[(13,.sl mI),(14,.int .i64),(15,.int .i64)],[(.cap 2 0,1000,.box 25 [.own (.row 37 ij)]),(.slot 6,20001,.box 44 [.own (.row 52 dR),.own (.row 118 fg),.own (.row 54 dd)]),(.slot 7,20002,.box 44 [.val hZ])],[],[(2,99,[1000])]⟩
def oo:Shape:=⟨[(11,.sl fg),(12,.int .i64),(13,.int .i64)],[(.slot 5,20000,.box 31 [.val jP]),(.slot 6,20001,.box 118 [.val fg])],[],[(1,138,[])]⟩
def oq:Shape:=⟨[(14,.int .i64),(15,.int .i64)],[(.slot 6,20000,.box 44 [.own (.row 52 dR),.own (.row 118 fg),.own (.row 54 dd)]),(.slot 7,20001,.box 44 [.val hZ])],[(13,1000,(.row 27 mI))],[(2,61,[])]⟩
def ou:Shape:=⟨[(14,.int .i64),(15,.int .i64)],[(.cap 2 0,1020,.box 46 [.own (.row 4 .bool)]),(.slot 6,20001,.box 44 [.own (.row 52 dR),.own (.row 118 fg),.own (.row 54 dd)]),(.slot 7,20002,.box 44 [.val hZ])],[(13,1000,(.row 27 mI))],[(2,62,[1020])]⟩
def ans:List (Nat×List (Nat×Shape)):=[(79,[(2,En)]),(124,[(2,Eo)]),(92,[(2,Ep)]),(192,[(6,Er)]),(144,[(2,Es)]),(55,[(4,Et),(12,Eu)]),(91,[(2,Ev)]),(164,[(5,Ad)]),(165,[(4,Ae)]),(49,[(5,Ew)]),(21,[(3,Ex)]),(69,[(4,Ey)]),(103,[(3,Ez)]),(80,[(4,wW)]),(81,[(3,Af),(8,Ag)]),(85,[(18,oc)]),(86,[(4,tO),(12,tR)]),(65,[(4,EA)]),(217,[(2,EB)]),(193,[(3,EC),(7,Ah),(10,tS)]),(98,[(4,ED)]),(66,[(4,EE)]),(191,[(3,EF)]),(96,[(3,EG)]),(115,[(4,wX)]),(117,[(7,mB)]),(122,[(3,Ai),(9,EH)]),(136,[(3,wY)]),(161,[(2,Aj)]),(154,[(8,od)]),(155,[(6,Jc),(11,Ak)]),(157,[(19,pU)]),(143,[(2,EI)]),(145,[(3,Al)]),(146,[(6,uU)]),(147,[(2,ym)]),(126,[(3,uV)]),(184,[(3,CD)]),(185,[(2,yn)]),(212,[(2,yp)]),(168,[(2,yq)]),(196,[(3,yr),(11,yu)]),(218,[(3,CE)]),(139,[(2,yv)]),(249,[(3,yw)]),(256,[(4,uW),(8,yx),(14,rQ),(21,yy)]),(258,[(2,yz)]),(260,[(1,uX)]),(208206,[(3,jQ)]),(215213,[(3,jR)]),(196194,[(5,k9)]),(110108,[(2,og)]),(233231,[(3,jS)]),(246244,[(2,la)]),(240238,[(3,lf)]),(16,[(3,rR)]),(20,[(2,yD)]),(48,[(6,yE)]),(52,[(6,yF)]),(53,[(3,yG)]),(54,[(2,yH)]),(57,[(3,uY)]),(77,[(5,ky)]),(113,[(3,uZ),(11,rS)]),(100060,[(3,oi)]),(139137,[(2,oo)]),(562060,[(3,oq)]),(563060,[(3,ou)])]
def An(f:FuncId)(key:Nat):Option Shape:=(ans.find? (fun p=>p.1==f)).bind fun p=>(p.2.find? (fun q=>q.1==key)).map (fun q=>q.2)
abbrev JT(g:aX):=(sh:Shape)→List Item→sh.T→Option g.B
noncomputable def cf(f:FuncId)(g:aX)(fn:Func)(F:FT)(J:JT g)(x:g.A):Option g.B:=aI Tryz.prog Eqs Sg F fn.ntmps (An f) J (th Tryz.prog g fn) fuel [.code (fn.body.getD .skip)] (entry g x)
noncomputable def gr(f j:Nat)(g:aX)(fn:Func)(sh:Shape)(F:FT)(J:JT g)(x:sh.T):Option g.B:=aI Tryz.prog Eqs Sg F fn.ntmps (An f) J (th Tryz.prog g fn) fuel (round (aY Tryz.prog (f%1000) j)) (aA sh x)
end Go.Vs
namespace Go.Vs
open Go.Proofs
variable {G:(f:FuncId)→(g:aX)→Option (g.A→Option g.B)}
noncomputable abbrev FX(G:(f:FuncId)→(g:aX)→Option (g.A→Option g.B)):FT:=Fix Tryz.prog Eqs Sg An G
noncomputable abbrev LX(G:(f:FuncId)→(g:aX)→Option (g.A→Option g.B))(f:FuncId)(g:aX)(fn:Func):JT g:=Lp Tryz.prog Eqs Sg An G f g fn
abbrev HG(G:(f:FuncId)→(g:aX)→Option (g.A→Option g.B)):Prop:=∀f g,(f==240 || f==241)=false→G f g=none
theorem aC{f:FuncId}{g:aX}{fn:Func}{x:g.A}{y:g.B}{z:Option g.B}(hG:G f g=none)(e:cf f g fn (FX G) (LX G f g fn) x=z)(h:z=some y) (hb:body Tryz.prog (f%1000)=some (fn,fn.body.getD .skip):=by kernel_rfl) (hc:(decide (g.ps.length≤fn.ntmps)&&decide (g.bs.length≤8))=true:=by kernel_rfl):FX G f g x=some y:=PI hG hb hc (e.trans h)
theorem aB{f j:Nat}{g:aX}{fn:Func}{sh:Shape}{x:sh.T}{y:g.B}{z:Option g.B}(e:gr f j g fn sh (FX G) (LX G f g fn) x=z)(h:z=some y) (hs:(match aY Tryz.prog (f%1000) j with | .inLoop _::_=>true|_=>false)=true:=by kernel_rfl):LX G f g fn sh (aY Tryz.prog (f%1000) j) x=some y:=by
 have h:=e.trans h;unfold gr at h;generalize aY Tryz.prog (f%1000) j=s at hs h ⊢
 split at hs
 ·exact UR h
 ·cases hs
abbrev aab:=(Int×Unit)
abbrev aad:=(((List ai)×((List aj)×Unit))×(((List ai)×((List aj)×Unit))×Unit))
abbrev aai:=(Int×aab)
abbrev aam:=(ab×Unit)
abbrev aaw:=(ID×Unit)
abbrev aax:=(StateT×Unit)
abbrev aaB:=(ak×Unit)
abbrev aaD:=((List ab)×Unit)
abbrev aaE:=((List aE)×Unit)
abbrev aaG:=(aam×Unit)
abbrev aaJ:=((List Int)×Unit)
abbrev aaS:=(ba×Unit)
abbrev aaU:=(Unit×Unit)
abbrev aaV:=((List (List aE))×Unit)
abbrev aaW:=(aaB×Unit)
abbrev aaZ:=((List ab)×aai)
abbrev aa0:=(aE×Unit)
abbrev aa1:=(aaw×Unit)
abbrev aa2:=(ByteArray×aab)
abbrev aa3:=((List ab)×aab)
abbrev aa4:=((List ai)×aai)
end Go.Vs
