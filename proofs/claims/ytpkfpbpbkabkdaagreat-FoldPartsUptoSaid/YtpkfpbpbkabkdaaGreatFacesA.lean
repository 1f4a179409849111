/- The walk of the function that -/
import Derived.Test.YtpkfpbpbkabkdaaGreatPlanar
import Derived.RangeFuncLeaves
import Derived.RangeFuncCalls
import Derived.RangeFuncNested
import Derived.Shelf.Abstract
import Derived.OwnWalkIn
import Derived.TacticsInMore
import Derived.LoopNIn
import Derived.LoopIn
set_option linter.unusedSimpArgs false
set_option linter.unusedVariables false
namespace Go.Vs
open Go.Proofs
variable {P:Program} {Eqs:TypeId→Option K} {Sg:FuncId→Option aO} {F:(f:FuncId)→(g:aO)→g.A→Option g.B} {R:Type}
variable {Z Z' Z0:Nat→Prop} {ψ ψ' ψ0:Nat→Value} {h h':Hp} {w w' w0:World} {B0:Nat} {O N:Nat→Prop}
abbrev FW(r:Option Nat):Fence:={ Fence.wide with round:=r }
theorem Sq{r:Option Nat}{n:Nat}{f:FuncId}{args:Array Value}{R:Ending→World→Prop}(h:Calls P f args w R):CallsIn (FW r) n P f args w R :=(callsIn_wide.2 h:CallsIn Fence.wide n P f args w R)
theorem wA{r:Option Nat}{n:Nat}{f:FuncId}{args:Array Value}{R:Ending→World→Prop}(h:CallsIn (FW r) n P f args w R):Calls P f args w R :=callsIn_wide.1 (show CallsIn Fence.wide n P f args w R from h)
def lp(ds:List Deferred)(a:Act):Act:={ a with defers:=a.defers++ds }
theorem dB(a:Act):lp [] a=a:=by cases a;simp[lp]
theorem uN(ds:List Deferred)(a:Act):(lp ds a).eval=a.eval:=funext fun x=>by cases x<;>rfl
theorem lO(ds:List Deferred)(a:Act)(d:Option Tmp)(v:Value):(lp ds a).put d v=lp ds (a.put d v):=by cases d<;>rfl
theorem bT(a:Act){d:Option Tmp}(v:Value){i:Nat}(h:∀j,d=some j→i≠j):(a.put d v).tmps.getD i undef=a.tmps.getD i undef:=by
 cases d with
 |none=>rfl
 |some j=>simp[Act.put,Array.getElem?_setIfInBounds_ne (Ne.symm (h j rfl))]
def acr:Op→Bool
 |.defer _=>false
 |_=>true
def MI(keep:List Nat)(ops:Array Oper):Bool:=ops.all fun o=>acr o.op&&(match o.dst with|some d => !(keep.contains d)|none=>true)
theorem Lo{keep:List Nat}{ops:Array Oper}(hk:MI keep ops=true){i:Nat}{o:Oper}(ho:ops[i]? = some o):(∀c,o.op≠.defer c)∧∀d,o.dst=some d→d∉keep:=by have:=adT.1 hk o (adS ho);simp only[Bool.and_eq_true]at this;obtain⟨h1,h2⟩:=this;refine⟨fun c hc=>(by rw[hc]at h1;cases h1),fun d hd=>?_⟩;rw[hd]at h2;simpa using h2
theorem CN{ops:Array Oper}{Q:Exit→Act→World→Prop}(r:Option Nat)(n:Nat)(ds:List Deferred){keep:List Nat}(b:Nat→Value)(hQ:∀e a w,Q e a w→e=.normal)(hk:MI keep ops=true) :
  ∀(l:List Nat) (a:Act) (w:World),wpOps P ops Q l a w→(∀d,d∈keep→a.tmps.getD d undef=b d) → wpOpsIn (FW r) n P ops (fun e a' w'=>e=.normal∧∃a0,a'=lp ds a0∧(∀d,d∈keep→a0.tmps.getD d undef=b d)∧Q .normal a0 w') l (lp ds a) w
 |[],a,w,h,hb=>⟨rfl,a,rfl,hb,h⟩
 |i::rest,a,w,h,hb=>by
  have ih:=CN r n ds b hQ hk rest;simp only[wpOps]at h;simp only[wpOpsIn]
  cases ho:ops[i]? with
  |none=>simp only[ho]at h;exact ih a w h hb
  |some o =>
   simp only[ho]at h ⊢;obtain⟨hd,lf⟩:=Lo hk ho;have put:∀v,∀d,d∈keep→(a.put o.dst v).tmps.getD d undef=b d:=fun v d hm=>(bT a v fun j hj e=>lf j hj (e▸hm)).trans (hb d hm);have TR:Region.wanted o (yielded ops (lp ds a).tmps)=Region.wanted o (yielded ops a.tmps):=rfl;by_cases hw:Region.wanted o (yielded ops a.tmps)=true
   ·rw[if_pos hw]at h;rw[if_pos (TR.trans hw)];rcases h with h|⟨_,a1,w1,h1⟩
    rotate_left
    ·cases hQ _ _ _ h1
    refine⟨fun _ _=>trivial,?_⟩;rw[Oper.semAt_eq _ _ _ hd,uN];unfold Oper.wp at h;generalize (execOp a.eval o).run P w=res at h ⊢
    cases res with
    |ok x w1 =>
     cases x with
     |value v=>show wpOpsIn _ _ _ _ _ _ _ _;rw[lO];exact ih _ _ h (put v)
     |skip=>show wpOpsIn _ _ _ _ _ _ _ _;rw[lO];exact ih _ _ h (put undef)
     | «defer» d =>
      show wpOpsIn _ _ _ _ _ _ _ _;have:=ih _ _ h (fun d' hm=>by
       have e:({ a with defers:=d::a.defers }:Act).put o.dst undef={ (a.put o.dst undef) with defers:=d::a.defers }:=by cases o.dst<;>rfl
       rw[e];exact put undef d' hm)
      rw[←lO]at this;exact this
     |enter f args =>
      refine⟨fun hh=>(by cases hh),Sq (Calls.mono h fun e w2 he=>?_)⟩
      cases e with
      |returned v=>simp only at he ⊢;rw[lO];exact ih _ _ he (put v)
      |panicked ch=>cases hQ _ _ _ he
      |outgrown=>obtain⟨a1,w1,h1⟩:=he;cases hQ _ _ _ h1
     |row row args =>refine⟨fun hh=>(by cases hh),?_⟩;intro c cs _;obtain⟨v,w2,h1,h2⟩:=h c cs;refine⟨v,w2,?_,stepsIn_wide.2 h2⟩;simp only at h1 ⊢;rw[lO];exact ih _ _ h1 (put v)
     |_=>cases h
    |halt x w1 =>cases x<;>first|cases hQ _ _ _ h|cases h
   ·rw[if_neg hw]at h;rw[if_neg (fun k=>hw (TR.symm.trans k)),lO];exact⟨fun _ _=>trivial,ih _ _ h (put undef)⟩
theorem Lq(V:Env P Eqs Sg F){n rid:Nat}{ops:Array Oper}{st:St}{kk:St→Option R}{r:R}{a:Act}{Q:Exit→Act→World→Prop} (hx:iH P Eqs Sg F n rid ops false st kk=some r) (k:Ok Z0 w0 O ψ0 Z ψ st.heap.get w) (t:cK Z ψ st.heap.get w n (look st.tmps) a) (hQ:∀eu Z ψ a w,kk eu=some r→Ok Z0 w0 O ψ0 Z ψ eu.heap.get w→cK Z ψ eu.heap.get w n (look eu.tmps) a→Q .normal a w):wpOps P ops Q (List.range ops.size) a w:=by
 obtain⟨b,Zb,hx⟩:∃b,b=(if false=true then Region.before ops else #[])∧(if(ops.all fun o=>iG n o)&&(!false || (uV ops b&&(Az ops b&&b6 (ops.toList.filterMap (·.dst)))))&&decide (ops.size≤128) then
  bw P Eqs Sg F rid false ops b (ops.toList.zipIdx.map fun p=>(p.2,p.1)) (lj false rid ops st) kk else none)=some r:=⟨_,rfl,hx⟩
 split at hx
 ·rename_i hc;simp only[Bool.and_eq_true,decide_eq_true_eq]at hc;obtain⟨⟨lf,hdr⟩,gE⟩:=hc;have Eo:∀(i:Nat) (o:Oper),ops[i]? = some o→iG n o=true:=fun i o ho=>adT.1 lf o (adS ho);have pk:Ok Z0 w0 O ψ0 Z ψ (nq rid st.heap).get w:=k.sub k.da.lj fun id=>kG;have pt:cK Z ψ (nq rid st.heap).get w n (fun d=>bz rid (look st.tmps d)) a :=⟨fun d=>xj ((t.rep d).less (fun _ h=>h) (cj.refl _ _) fun i hi=>⟨kG hi,rfl⟩),t.size,t.defers⟩;have pm:tI (mO rid fun _=>False) (nq rid st.heap).get:=fun i ty cs hb=>by
   obtain⟨_,o',h1,h2⟩:=iM hb
   cases o' with
   |own ok xs=>cases h2
   |box zg cs'=>cases h2;exact iY cs'
  have Ep:look (st.tmps.map fun p=>(p.1,bz rid p.2))=fun d=>bz rid (look st.tmps d):=funext fun d=>Bu (bz rid) (by simp only[bz]) st.tmps d;rw[←Ek ops]
  cases Ko:ops.any (makes ·.op) with
  |false =>
   have hp:lj false rid ops st=st:=by unfold lj;rw[Ko];rfl
   rw[hp]at hx;refine lJ V (rid:=rid) (n:=n) (b:=_) false (fun _ i o ho=>?_) gE Eo hQ _ 0 st Z ψ a w (oy ops) hx ⟨k,t,fun d=>?_,fun i ty cs hb=>?_⟩
   ·have:=Array.any_eq_false'.1 Ko o (adS ho);simpa using this
   ·exact(aD.top _).imp fun id _ h=>by cases h
   ·exact(av.top _).imp fun id _ h=>by cases h
  |true =>
   have hp:lj false rid ops st={ tmps:=st.tmps.map fun p=>(p.1,bz rid p.2),heap:=nq rid st.heap }:=by unfold lj;rw[Ko];rfl
   rw[hp]at hx;refine lJ V (rid:=rid) (n:=n) (b:=_) true (fun h=>by cases h) gE Eo hQ _ 0 _ Z ψ a w (oy ops) hx ⟨pk,by rw[Ep];exact pt,fun d=>?_,fun i ty cs hb=>?_⟩
   ·rw[Ep];exact(pV _).imp fun id h1 _ h2=>(h1 h2).elim
   ·exact(pm i ty cs hb).imp fun id h1 _ h2=>(h1 h2).elim
 ·cases hx
noncomputable def Yp(P:Program)(Eqs:TypeId→Option K)(Sg:FuncId→Option aO)(F:(f:FuncId)→(g:aO)→g.A→Option g.B)(n:Nat)(keep:List Nat)(c:Code)(st:St)(kk:St→Option R):Option R :=match c with
 |.region rid ops false=>if MI keep ops=true then iH P Eqs Sg F n rid ops false st kk else none
 |_=>none
structure Aft(n:Nat)(keep:List Nat)(b:Nat→Value)(ds:List Deferred)(kk:St→Option R)(x:R)(Z0:Nat→Prop)(w0:World)(O:Nat→Prop)(ψ0:Nat→Value)(e:Exit)(a':Act)(w':World):Prop where
 e:e=.normal
 ex:∃a0,a'=lp ds a0∧(∀d,d∈keep→a0.tmps.getD d undef=b d)∧∃eu Z' ψ',kk eu=some x∧Ok Z0 w0 O ψ0 Z' ψ' eu.heap.get w'∧cK Z' ψ' eu.heap.get w' n (look eu.tmps) a0
theorem dK(V:Env P Eqs Sg F){n:Nat}{keep:List Nat}{c:Code}{st:St}{kk:St→Option R}{x:R}(hx:Yp P Eqs Sg F n keep c st kk=some x)(r:Option Nat)(m:Nat)(ds:List Deferred){a:Act} (k:Ok Z0 w0 O ψ0 Z ψ st.heap.get w) (t:cK Z ψ st.heap.get w n (look st.tmps) a):c.wpIn (FW r) m P (Aft n keep (fun d=>a.tmps.getD d undef) ds kk x Z0 w0 O ψ0) (lp ds a) w:=by
 unfold Yp at hx
 split at hx
 ·rename_i rid ops
  split at hx
  ·rename_i hk;have h1:=Lq V hx k t (Q:=fun e a w=>e=.normal∧∃eu Z' ψ',kk eu=some x∧Ok Z0 w0 O ψ0 Z' ψ' eu.heap.get w∧cK Z' ψ' eu.heap.get w n (look eu.tmps) a) fun eu Z' ψ' a w h1 h2 h3=>⟨rfl,eu,Z',ψ',h1,h2,h3⟩;have h2:=CN r m ds (keep:=keep) (fun d=>a.tmps.getD d undef) (fun _ _ _ h=>h.1) hk _ a w h1 fun _ _=>rfl;refine wpIn_mono (wpIn_region h2) ?_;rintro e a' w' ⟨h3,a0,h4,h5,h6⟩;exact⟨h3,a0,h4,h5,h6.2⟩
  ·cases hx
 ·cases hx
end Go.Vs
namespace Go.Vs
open Go.Proofs
variable {Z Z' Z0:Nat→Prop} {ψ ψ' ψ0 nW dR:Nat→Value} {h h' h1 h2:Hp} {w w' w0:World} {B0:Nat} {O N:Nat→Prop}
theorem Good.start(g:Good Z ψ h w B0 O):Ok Z w (Own ψ h) ψ Z ψ h w :=⟨g.FB _,fun _ h=>h,fun _ h=>.inl h,rfl,rfl,rfl,acn _,fun _ _ _=>rfl,fun _ _ _=>rfl⟩
theorem Good.Sr{B1:Nat}{O1:Nat→Prop}(g:Good Z ψ h w B0 O)(hl:∀b,Own ψ h b→B0≤b∨O b→B1≤b∨O1 b):Good Z ψ h w B1 O1 :=⟨g.box,g.row,fun i b h1 h2=>⟨(g.live i b h1 h2).1,hl b ⟨i,h1,h2⟩ (g.live i b h1 h2).2⟩,g.apart,g.jO⟩
theorem Good.same(g:Good Z ψ h w B0 O)(hz:∀b,Z b→Z' b)(hs:∀b,Z b∨Own ψ h b→w'.heap[b]? = w.heap[b]?)(hn:∀b,Own ψ h b→¬Z' b)(hl:∀b,Z' b→b<w'.heap.size):Good Z' ψ h w' B0 O:=by
 have sm:cj Z w w':=fun b hb=>hs b (.inl hb);refine⟨fun i ty cs hb=>?_,fun i ok x hb=>?_,fun i b h1 h2=>⟨hn b ⟨i,h1,h2⟩,(g.live i b h1 h2).2⟩,g.apart,hl⟩
 ·obtain⟨q,vs,e1,e2,e3,e4⟩:=g.box i ty cs hb;exact⟨q,vs,e1,(hs q (.inr ⟨i,by rw[hb];simp,by rw[e1];rfl⟩)).trans e2,e3.less hz sm fun _ hi=>⟨hi,rfl⟩,e4⟩
 ·exact(g.row i ok x hb).kept hz sm fun q hq=>hs q (.inr ⟨i,by rw[hb];simp,hq⟩)
def gY(X Z A:Nat→Prop)(w:World):Prop:=∀b,X b→b<w.heap.size∧¬Z b∧¬A b
structure Tr(L Z A:Nat→Prop)(w:World)(Z' B:Nat→Prop)(w':World):Prop where
 fN:∀b,Z b→Z' b
 eC:∀b,Z' b→Z b∨A b∨w.heap.size≤b
 own:∀b,B b→A b∨w.heap.size≤b
 os:w'.os=w.os
 tape:w'.tape=w.tape
 output:w'.output=w.output
 size:w.heap.size≤w'.heap.size
 block:∀b,b<w.heap.size→¬A b→¬L b→w'.heap[b]? = w.heap[b]?
variable {L X A B C:Nat→Prop} {Z3:Nat→Prop} {w3:World}
theorem Tr.refl:Tr L Z A w Z A w:=⟨fun _ h=>h,fun _ h=>.inl h,fun _ h=>.inl h,rfl,rfl,rfl,acn _,fun _ _ _ _=>rfl⟩
theorem Tr.trans(s:Tr L Z A w Z' B w')(t:Tr L Z' B w' Z3 C w3):Tr L Z A w Z3 C w3:=by
 have up:∀b,B b∨w'.heap.size≤b→A b∨w.heap.size≤b:=fun b hb=>hb.elim (s.own b) fun e=>.inr (acB s.size e);refine⟨fun b hb=>t.fN b (s.fN b hb),fun b hb=>?_,fun b hb=>up b (t.own b hb),t.os.trans s.os,t.tape.trans s.tape,t.output.trans s.output,acB s.size t.size,fun b h1 h2 h3=>?_⟩
 ·rcases t.eC b hb with e|e
  ·exact s.eC b e
  ·exact .inr (up b e)
 ·rw[t.block b (Nat.lt_of_lt_of_le h1 s.size) (fun e=>(s.own b e).elim h2 fun e=>by omega) h3];exact s.block b h1 h2 h3
theorem Tr.beside(t:Tr L Z A w Z' B w')(C:Nat→Prop):Tr L Z (fun b=>A b∨C b) w Z' (fun b=>B b∨C b) w' :=⟨t.fN,fun b hb=>(t.eC b hb).imp (fun h=>h) fun h=>h.imp .inl fun h=>h,fun b hb=>hb.elim (fun h=>(t.own b h).imp .inl fun h=>h) fun h=>.inl (.inr h),t.os,t.tape,t.output,t.size,fun b h1 h2 h3=>t.block b h1 (fun h=>h2 (.inl h)) h3⟩
theorem Tr.less(t:Tr L Z A w Z' B w'){A' B' L':Nat→Prop}(ha:∀b,A b→A' b)(hb:∀b,B' b→B b)(hl:∀b,L b→L' b):Tr L' Z A' w Z' B' w' :=⟨t.fN,fun b h=>(t.eC b h).imp (fun h=>h) fun h=>h.imp (ha b) fun h=>h,fun b h=>(t.own b (hb b h)).imp (ha b) fun h=>h,t.os,t.tape,t.output,t.size,fun b h1 h2 h3=>t.block b h1 (fun h=>h2 (ha b h)) fun h=>h3 (hl b h)⟩
theorem Ok.tr(k:Ok Z w (Own ψ h) ψ Z' ψ' h' w'):Tr L Z (Own ψ h) w Z' (Own ψ' h') w' :=⟨k.fN,k.eC,fun b ⟨i,h1,h2⟩=>(k.da.live i b h1 h2).2.symm,k.os,k.tape,k.output,k.size,fun b h1 h2 _=>k.block b h1 h2⟩
theorem Ok.Lr(k:Ok Z w (Own ψ h) ψ Z' ψ' h' w')(g:Good Z ψ h w B0 O)(hB:B0≤w.heap.size):Good Z' ψ' h' w' B0 O :=k.da.Sr fun b _ hb=>hb.elim (fun e=>.inl (acB hB e)) fun⟨i,h1,h2⟩=>(g.live i b h1 h2).2
theorem Tr.cq(h1:w'.os=w.os)(h2:w'.tape=w.tape)(h3:w'.output=w.output)(h4:w.heap.size≤w'.heap.size)(h5:∀b,b<w.heap.size→¬L b→w'.heap[b]? = w.heap[b]?):Tr L Z A w Z A w' :=⟨fun _ h=>h,fun _ h=>.inl h,fun _ h=>.inl h,h1,h2,h3,h4,fun b hb _ hl=>h5 b hb hl⟩
theorem Tr.Jf(t:Tr L Z A w Z' B w')(f:gY X Z A w):gY X Z' B w':=fun b hb=>by
 obtain⟨h1,h2,h3⟩:=f b hb;refine⟨adL h1 t.size,fun hz=>?_,fun ho=>?_⟩
 ·rcases t.eC b hz with e|e|e
  ·exact h2 e
  ·exact h3 e
  ·omega
 ·rcases t.own b ho with e|e
  ·exact h3 e
  ·omega
theorem Tr.free(t:Tr L Z A w Z' B w')(f:gY X Z A w)(hl:∀b,X b→¬L b):gY X Z' B w'∧∀b,X b→w'.heap[b]? = w.heap[b]? :=⟨t.Jf f,fun b hb=>t.block b (f b hb).1 (f b hb).2.2 (hl b hb)⟩
theorem Tr.same(t:Tr L Z A w Z' B w')(hz:∀b,Z b→b<w.heap.size∧¬A b)(hl:∀b,Z b→¬L b):cj Z w w':=fun b hb=>t.block b (hz b hb).1 (hz b hb).2 (hl b hb)
theorem Good.zA(g:Good Z ψ h w B0 O):∀b,Z b→b<w.heap.size∧¬Own ψ h b:=fun b hb=>⟨g.jO b hb,fun⟨i,h1,h2⟩=>(g.live i b h1 h2).1 hb⟩
theorem Tr.part(t:Tr L Z A w Z' B w')(hz:∀b,Z b→¬A b)(g2:Good Z dR h2 w B0 O)(f:gY (Own dR h2) Z A w)(hl:∀b,Z b∨Own dR h2 b→¬L b)(zl:∀b,Z' b→b<w'.heap.size):Good Z' dR h2 w' B0 O:=by
 obtain⟨f1,f2⟩:=t.free f fun b hb=>hl b (.inr hb);refine g2.same t.fN (fun b hb=>?_) (fun b hb=>(f1 b hb).2.1) zl;rcases hb with hb|hb
 ·exact t.same (fun b hb=>⟨g2.jO b hb,hz b hb⟩) (fun b hb=>hl b (.inl hb)) b hb
 ·exact f2 b hb
structure Wk(Z0:Nat→Prop)(w0:World)(O:Nat→Prop)(Z:Nat→Prop)(w:World):Prop where
 fN:∀b,Z0 b→Z b
 eC:∀b,Z b→Z0 b∨O b∨w0.heap.size≤b
 os:w.os=w0.os
 tape:w.tape=w0.tape
 output:w.output=w0.output
 size:w0.heap.size≤w.heap.size
 block:∀b,b<w0.heap.size→¬O b→w.heap[b]? = w0.heap[b]?
theorem Wk.start(Z:Nat→Prop)(w:World)(O:Nat→Prop):Wk Z w O Z w:=⟨fun _ h=>h,fun _ h=>.inl h,rfl,rfl,rfl,acn _,fun _ _ _=>rfl⟩
theorem Wk.step(b:Wk Z0 w0 O Z w)(t:Tr L Z A w Z' B w')(own:∀q,A q→w0.heap.size≤q∨O q)(hl:∀b,L b→w0.heap.size≤b):Wk Z0 w0 O Z' w':=by
 refine⟨fun q hq=>t.fN q (b.fN q hq),fun q hq=>?_,t.os.trans b.os,t.tape.trans b.tape,t.output.trans b.output,acB b.size t.size,fun q hq ho=>?_⟩
 ·rcases t.eC q hq with e|e|e
  ·exact b.eC q e
  ·exact .inr (own q e).symm
  ·exact .inr (.inr (acB b.size e))
 ·rw[t.block q (Nat.lt_of_lt_of_le hq b.size) (fun e=>(own q e).elim (fun e=>by omega) ho) fun e=>by have:=hl q e;omega];exact b.block q hq ho
theorem Good.from(g:Good Z ψ h w B0 O):∀q,Own ψ h q→B0≤q∨O q:=fun q ⟨i,h1,h2⟩=>(g.live i q h1 h2).2
open Classical in
noncomputable def qg(h1:Hp)(nW dR:Nat→Value)(i:Nat):Value:=if h1 i=none then dR i else nW i
theorem oV{i:Nat}(h:h1 i≠none):qg h1 nW dR i=nW i:=if_neg h
theorem oW{i:Nat}(h:h1 i=none):qg h1 nW dR i=dR i:=if_pos h
theorem Good.join{a b:Heap}(g1:Good Z nW a.get w B0 O)(g2:Good Z dR b.get w B0 O)(dis:∀i,a.get i≠none→b.get i=none)(ap:∀q,Own nW a.get q→¬Own dR b.get q) (m1:∀i ty cs,a.get i=some (.box ty cs)→av (fun j=>a.get j≠none) cs) (m2:∀i ty cs,b.get i=some (.box ty cs)→av (fun j=>b.get j≠none) cs):Good Z (qg a.get nW dR) (a++b).get w B0 O:=by
 have get:∀i,(a++b).get i=match a.get i with|some o=>some o|none=>b.get i:=fun i=>Heap.get_append a b i
 have acu:∀{i o},a.get i=some o→(a++b).get i=some o:=fun {i o} e=>by rw[get,e]
 have Yq:∀{i},a.get i=none→(a++b).get i=b.get i:=fun {i} e=>by rw[get,e]
 have nn:∀{i},(a++b).get i≠none→(a.get i≠none∧qg a.get nW dR i=nW i)∨(a.get i=none∧b.get i≠none∧qg a.get nW dR i=dR i):=fun {i} hi=>by
  cases e:a.get i with
  |some o=>exact .inl ⟨by simp,oV (by rw[e];simp)⟩
  |none=>rw[Yq e]at hi;exact .inr ⟨rfl,hi,oW e⟩
 refine⟨fun i ty cs hb=>?_,fun i ok x hb=>?_,fun i q h1 h2=>?_,fun i j q h1 h2 h3 h4=>?_,g1.jO⟩
 ·cases e:a.get i with
  |some o =>rw[acu e]at hb;cases hb;obtain⟨q,vs,e1,e2,e3,e4⟩:=g1.box i ty cs e;exact⟨q,vs,(oV (by rw[e];simp)).trans e1,e2,e3.move (fun _ h=>h) (cj.refl _ _) (fun j hj _=>⟨hj,oV hj⟩) (m1 i ty cs e),e4⟩
  |none =>
   rw[Yq e]at hb;obtain⟨q,vs,e1,e2,e3,e4⟩:=g2.box i ty cs hb;refine⟨q,vs,(oW e).trans e1,e2,e3.move (fun _ h=>h) (cj.refl _ _) (fun j hj _=>⟨hj,oW ?_⟩) (m2 i ty cs hb),e4⟩
   cases k:a.get j with
   |none=>rfl
   |some _=>exact absurd (dis j (by rw[k];simp)) hj
 ·cases e:a.get i with
  |some o=>rw[acu e]at hb;cases hb;rw[oV (by rw[e];simp)];exact g1.row i ok x e
  |none=>rw[Yq e]at hb;rw[oW e];exact g2.row i ok x hb
 ·rcases nn h1 with⟨e1,e2⟩|⟨_,e1,e2⟩<;>rw[e2]at h2
  ·exact g1.live i q e1 h2
  ·exact g2.live i q e1 h2
 ·rcases nn h1 with⟨e1,e2⟩|⟨_,e1,e2⟩<;>rcases nn h2 with⟨e3,e4⟩|⟨_,e3,e4⟩<;>rw[e2]at h3<;>rw[e4]at h4
  ·exact g1.apart i j q e1 e3 h3 h4
  ·exact absurd ⟨j,e3,h4⟩ (ap q ⟨i,e1,h3⟩)
  ·exact absurd ⟨i,e1,h3⟩ (ap q ⟨j,e3,h4⟩)
  ·exact g2.apart i j q e1 e3 h3 h4
end Go.Vs
namespace Go.Vs
open Go.Proofs Go.RowKit Go.Shelf
theorem Vg(F:Fence)(n:Nat)(h5:F.fn 250)(Yr:F.round=none)(x y:Array Value)(w:World) :
  CallsIn F n Tryz.prog 250 #[.agg x,.agg y] w fun e w'=>e=.returned (.func (.func 254) #[] #[.pointer (some ⟨w.heap.size+1,0,none⟩),.pointer (some ⟨w.heap.size,0,none⟩)])∧w'=(w.alloc (.cells x 41)).alloc (.cells y 33):=by
 refine callsIn_of_wp Tryz.func250 rfl h5 ?_ Yr;simp only[Tryz.ntmps250,List.size_toArray,List.length_cons,List.length_nil,Nat.reduceAdd,Nat.reduceSub,Array.replicate_succ,Array.replicate_zero,List.push_toArray,List.append_toArray,List.nil_append,List.cons_append]
 gi_wp2
 go_ret
 exact⟨rfl,rfl⟩
def Ls(h:Heap)(id:Nat):List AV→Option (Bool×bq)
 |[.agg a,.agg b]=>match dg kZ a,dg bL b with
  |some d,some x=>some (true,.new (.fn 254 [.ref (id+129) 0 0 0,.ref (id+128) 0 0 0]) [(id+128,.box 41 (enc kZ d)),(id+129,.box 33 (enc bL x))])
  |_,_=>none
 |_=>none
theorem rO(d:kZ.T)(p:Nat→Prop):av p (enc kZ d):=by show av p [.sl false dP d.1,.sl false fJ d.2];simp[av,aD]
theorem Jg(x:bL.T)(p:Nat→Prop):av p (enc bL x):=by show av p [.int .i64 x.1.1,.int .i64 x.1.2,.int .i64 x.2];simp[av,aD]
theorem Gs:gV Tryz.prog 250 Ls:=by
 intro Z ψ h w B0 O N hh id e vs us g hB ba hN aX lZ qN A1 he;unfold Ls at he
 split at he
 rotate_left
 ·cases he
 rename_i a b
 split at he
 rotate_left
 ·cases he
 rename_i d x hd hx;simp only[Option.some.injEq,Prod.mk.injEq,true_and]at he;subst he;simp only[an,au]at qN;obtain⟨_,_,rfl,⟨xs,rfl,yl⟩,_,_,rfl,⟨ys,rfl,J4⟩,rfl⟩:=qN;have k1:=dC hd yl;have k2:=dC hx J4;have n0:N (id+128):=hN 128 (by omega);have n1:N (id+129):=hN 129 (by omega);have b1:=AH g hB (id+128) 41 n0 (iD (h:=h) (ψ:=ψ) k1) k1.one (fun i ty cs hb=>av.imp (p:=fun j=>¬N j) (q:=fun j=>j≠id+128) (fun j hj e=>hj (by rw[e];exact n0)) (aX i ty cs hb)) (rO d _);have sz:B0≤(w.alloc (.cells xs 41)).heap.size:=by rw[World.size_alloc];omega
 have k2':=k2.mono (fun _ h=>h) (b1.same g);have b2:=AH b1.da sz (id+129) 33 n1 (iD k2') k2.one (fun i ty cs hb=>by
  unfold dO at hb
  split at hb
  ·cases hb;exact rO d _
  ·exact av.imp (p:=fun j=>¬N j) (q:=fun j=>j≠id+129) (fun j hj e=>hj (by rw[e];exact n1)) (aX i ty cs hb)) (Jg x _)
 refine(wA (Vg (FW none) 3 trivial rfl xs ys w)).mono fun en w' ⟨e1,e2⟩=>?_;subst e2;have hH:(bq.new (.fn 254 [.ref (id+129) 0 0 0,.ref (id+128) 0 0 0]) [(id+128,.box 41 (enc kZ d)),(id+129,.box 33 (enc bL x))]).hp h=dO (dO h (id+128) (some (.box 41 (enc kZ d)))) (id+129) (some (.box 33 (enc bL x))):=by
  funext i;show(match Heap.get _ i with|some o=>some o|none=>h i)=_;unfold dO;by_cases h1:i=id+129
  ·subst h1;simp[Heap.get]
  ·by_cases h2:i=id+128
   ·subst h2;simp[Heap.get]
   ·simp[Heap.get,h1,h2,Ne.symm h1,Ne.symm h2]
 refine⟨_,Z,dO (dO ψ (id+128) (.pointer (some ⟨w.heap.size,0,none⟩))) (id+129) (.pointer (some ⟨(w.alloc (.cells xs 41)).heap.size,0,none⟩)),e1,?_,?_⟩
 ·rw[hH];refine⟨fun _ h=>h,fun _ h=>.inl h,⟨rfl,rfl,rfl,by rw[World.size_alloc,World.size_alloc];omega,fun q hq _=>?_⟩,fun i hi=>?_,b2.da⟩
  ·rw[heap_alloc_old _ _ (by rw[World.size_alloc];omega),heap_alloc_old _ _ hq]
  ·rcases b2.ids i hi with⟨h1,h2⟩|h1
   ·rcases b1.ids i h1 with⟨h3,h4⟩|h3
    ·exact .inl ⟨h3,h2.trans h4⟩
    ·exact .inr h3
   ·exact .inr h1
 ·rw[hH];simp only[bq.v,au,an];refine⟨_,rfl,_,_,rfl,⟨_,rfl,fun _=>?_⟩,_,_,rfl,⟨_,rfl,fun _=>?_⟩,rfl⟩
  ·rw[aU];show(⟨w.heap.size+1,0,none⟩:Addr)=⟨(w.alloc (.cells xs 41)).heap.size,0*0+0,none⟩;rw[World.size_alloc]
  ·rw[cU _ _ (by omega),aU];rfl
def O4:aO:={ ps:=[],bs:=[],rs:=[],x:=some Ls }
def SgF(f:FuncId):Option aO:=if f=250 then some O4 else Sg f
end Go.Vs
namespace Go.Vs
open Go.Proofs
noncomputable abbrev F0:FT:=FX UK
theorem acw{f:FuncId}{g:aO}{x:g.A}{y:g.B}(hs:Sg f=some g)(h:F0 f g x=some y):Ef Tryz.prog f g x y :=z5 Ry Ca ly sN (fun f g u x y _ hu _=>by cases hu) hs h
theorem hg0:HG UK:=fun _ _ _=>rfl
theorem Gt{f:FuncId}{g:aO}(h:SgF f=some g):(f=250∧g=O4)∨Sg f=some g:=by
 unfold SgF at h
 split at h
 ·rename_i e;cases h;exact .inl ⟨e,rfl⟩
 ·exact .inr h
noncomputable def F1:FT:=fun f g x=>if f=250 then none else F0 f g x
theorem Ss{f:FuncId}{g:aO}{x:g.A}{y:g.B}(hf:(f==250)=false)(h:F0 f g x=some y):F1 f g x=some y:=by unfold F1;rw[if_neg (fun e=>by rw[e]at hf;cases hf)];exact h
theorem qh:Env Tryz.prog Eqs SgF F1 where
 eqs:=Ca
 con:=fun f g x y hs hx=>by
  unfold F1 at hx
  split at hx
  ·cases hx
  ·rename_i hf;rcases Gt hs with⟨e,_⟩|hs
   ·exact absurd e hf
   ·exact acw hs hx
 spec:=fun f g u hs hu=>by
  rcases Gt hs with⟨e,e2⟩|hs
  ·subst e;subst e2;cases hu;intro Z ψ h w B0 O N hh id e vs us;exact Gs
  ·exact Ry f g u hs hu
 Hw:=fun f g hs=>by
  rcases Gt hs with⟨e,e2⟩|hs
  ·subst e;have hc:KN [(250,O4)]=true:=by kernel_rfl
   exact Ac hc (g:=O4) (by simp)
  ·exact ly f g hs
def tV(id:Nat):Code→Option Code
 |.region i ops d=>if i=id then some (.region i ops d) else none
 |.seq a b=>match tV id a with|some c=>some c|none=>tV id b
 |.cond _ a b=>match tV id a with|some c=>some c|none=>tV id b
 |.block _ a=>tV id a
 |.loop a=>tV id a
 |.scope a=>tV id a
 |.rangeFunc _ _ a b=>match tV id a with|some c=>some c|none=>tV id b
 |_=>none
noncomputable def rg(fn:Func)(i:Nat):Code:=(tV i (fn.body.getD .skip)).getD .skip
noncomputable abbrev r6(i:Nat):Code:=rg Tryz.f240 i
noncomputable abbrev r5(i:Nat):Code:=rg Tryz.f254 i
noncomputable abbrev cRF:Code:=.rangeFunc (.tmp 22) #[23] (r6 9) (.block 3 (.seq (r6 10) (r6 11)))
noncomputable abbrev cB:Code:=.seq (r6 5) (.seq (.seq (r6 6) (.cond (.tmp 19) (.exit 1) .skip)) (.seq (r6 7) (.seq (.seq (r6 8) (.block 2 cRF)) (r6 12))))
noncomputable abbrev cL:Code:=.seq (r6 4) (.seq (.cond (.tmp 14) .skip (.exit 0)) (.seq (.block 1 cB) (r6 13)))
theorem Vh:Tryz.f240.body=some (.seq (r6 0) (.seq (r6 1) (.seq (r6 2) (.seq (.seq (r6 3) (.block 0 (.loop cL))) (.seq (r6 14) .ret))))):=by kernel_rfl
noncomputable abbrev cR:Code:=.seq (r5 2) (.seq (r5 3) (.cond (.tmp 22) .ret .skip))
theorem Vi:Tryz.f254.body=some (.seq (r5 0) (.block 0 (.loop (.seq (.seq (r5 1) (.cond (.tmp 9) .skip (.exit 0))) (.block 1 cR))))):=by kernel_rfl
abbrev iT:K:=.int .i64
abbrev zc:BK:=.box 224 [.own (.map bL .bool)]
abbrev Su:BK:=.box 50 [.own (.row 33 bL)]
abbrev Lt:BK:=.box 41 [.val kZ]
abbrev WV:BK:=.box 33 [.val bL]
abbrev rws:List (Nat×Nat×OK):=[(3,31000,.row 50 (.sl bL)),(11,31001,.row 33 bL)]
abbrev S0:Shape:=⟨[(12,iT),(13,iT)],[(.slot 4,20000,zc),(.slot 1,20001,Lt)],rws,[]⟩
abbrev S1:Shape:=⟨[(14,.bool),(12,iT),(13,iT)],[(.slot 4,20000,zc),(.slot 1,20001,Lt)],rws,[]⟩
abbrev S2:Shape:=⟨[(19,.bool),(12,iT),(13,iT)],[(.slot 4,20000,zc),(.slot 1,20001,Lt),(.slot 6,20002,WV)],rws,[]⟩
abbrev S3:Shape:=⟨[(12,iT),(13,iT)],[(.slot 4,20000,zc),(.slot 7,20001,Su),(.cap 22 0,20002,WV),(.cap 22 1,20003,Lt),(.slot 1,20004,Lt)],rws,[(22,254,[20002,20003])]⟩
abbrev S9:Shape:=⟨[(23,bL)],[(.slot 4,20000,zc),(.slot 7,20001,Su)],[],[]⟩
abbrev S10:Shape:=⟨[],[(.slot 4,20000,zc),(.slot 7,20001,Su),(.slot 8,20002,WV)],[],[]⟩
abbrev S11:Shape:=⟨[],[(.slot 4,20000,zc),(.slot 7,20001,Su)],[],[]⟩
abbrev S12:Shape:=⟨[(12,iT),(13,iT)],[(.slot 4,20000,zc),(.slot 7,20001,Su),(.slot 1,20004,Lt)],rws,[]⟩
abbrev SE:Shape:=⟨[],[],[(2,3000,.row 50 (.sl bL))],[]⟩
abbrev U0:Shape:=⟨[],[(.slot 1,20002,WV),(.slot 2,20003,Lt)],[],[]⟩
abbrev U1:Shape:=⟨[(5,.bool)],[(.slot 1,20002,WV),(.slot 2,20003,Lt),(.slot 4,20004,WV)],[],[]⟩
abbrev U2:Shape:=⟨[(22,.bool),(5,.bool)],[(.slot 1,20002,WV),(.slot 2,20003,Lt),(.slot 4,20004,WV)],[],[]⟩
noncomputable abbrev rn{R:Type}(F:FT)(n:Nat)(keep:List Nat)(c:Code)(st:St)(kk:St→Option R):Option R:=Yp Tryz.prog Eqs SgF F n keep c st kk
theorem ag4(F:FT)(d:ak):(rn F 36 [] (r6 0) { tmps:=[(0,b5 kZ d)],heap:=[] } fun st=>rn F 36 [] (r6 1) st fun st=>rn F 36 [] (r6 2) st fun st=>rn F 36 [] (r6 3) st (cz S0)) =(F 249 vJ ((d,()),())).bind fun(y:(((List ab)×Unit)×Unit))=>some (((((List.length y.1.1):Nat):Int),((0:Int),())),(((([]:List (ab×Bool)),()),((d,()),())),(([]:List (List ab)),y.1))):=by kernel_rfl
abbrev Tm:=List (ab×Bool)
theorem n4(F:FT)(n i:Int)(x:_):rn F 36 [] (r6 4) (ar S0 (((n,((i,()):Int×Unit)):Int×(Int×Unit)),x)) (cz S1)=some ((decide (i<n),(n,(i,()))),x):=by kernel_rfl
theorem n5(F:FT)(b:Bool)(n i:Int)(m:Tm)(d:ak)(out:List (List ab))(l:List ab):(rn F 36 [] (r6 5) (ar S1 ((b,(n,(i,()))),(((m,()),((d,()),())),(out,(l,()))))) fun st=>rn F 36 [] (r6 6) st (cz S2)) = cond (decide ((0:Int)≤i)&&decide (i<((l.length:Nat):Int))) ((l[Int.toNat i]?).bind fun(y:ab)=>some (((fW (.pair (.pair (.int .i64) (.int .i64)) (.int .i64)) (y.1,y.2) m).getD false,(n,(i,()))),(((m,()),((d,()),(((y.1,y.2),()),()))),(out,(l,()))))) none:=by kernel_rfl
theorem n7(F:FT)(b:Bool)(n i:Int)(m:Tm)(d:ak)(x:ab)(out:List (List ab))(l:List ab):(rn F 36 [] (r6 7) (ar S2 ((b,(n,(i,()))),(((m,()),((d,()),((x,()),()))),(out,(l,()))))) fun st=>rn F 36 [] (r6 8) st (cz S3)) = some ((n,(i,())),(((m,()),((([]:List ab),()),((x,()),((d,()),((d,()),()))))),(out,(l,())))):=by kernel_rfl
theorem n9(F:FT)(y:ab)(m:Tm)(f:List ab):rn F 36 [4,7] (r6 9) (ar S9 ((y,()),(((m,()),((f,()),())),()))) (cz S10)=some ((),(((m,()),((f,()),((y,()),()))),())):=by kernel_rfl
theorem n10(F:FT)(y:ab)(m:Tm)(f:List ab):(rn F 36 [4,7] (r6 10) (ar S10 ((),(((m,()),((f,()),((y,()),()))),()))) fun st=>rn F 36 [4,7] (r6 11) st (cz S11)) = cond (bJ f.length 1) (some ((),((((jn (.pair (.pair (.int .i64) (.int .i64)) (.int .i64)) (y.1,y.2) true m),()),((f++[y],()),())),()))) none:=by kernel_rfl
theorem n12(F:FT)(n i:Int)(m:Tm)(f:List ab)(d:ak)(out:List (List ab))(l:List ab):rn F 36 [] (r6 12) (ar S12 ((n,(i,())),(((m,()),((f,()),((d,()),()))),(out,(l,()))))) (cz S0) = cond (bJ out.length 1) (some ((n,(i,())),(((m,()),((d,()),())),(out++[f],(l,()))))) none:=by kernel_rfl
theorem n13(F:FT)(n i:Int)(x:_):rn F 36 [] (r6 13) (ar S0 (((n,((i,()):Int×Unit)):Int×(Int×Unit)),x)) (cz S0)=some ((n,(IntKind.wrap .i64 (i+1),())),x):=by kernel_rfl
theorem ag5(F:FT)(b:Bool)(n i:Int)(m:Tm)(d:ak)(x:ab)(out:List (List ab))(l:List ab):rn F 36 [] (r6 13) (ar S2 ((b,(n,(i,()))),(((m,()),((d,()),((x,()),()))),(out,(l,()))))) (cz S0)=some ((n,(IntKind.wrap .i64 (i+1),())),(((m,()),((d,()),())),(out,(l,())))):=by kernel_rfl
theorem n14(F:FT)(b:Bool)(n i:Int)(m:Tm)(d:ak)(out:List (List ab))(l:List ab):rn F 36 [] (r6 14) (ar S1 ((b,(n,(i,()))),(((m,()),((d,()),())),(out,(l,()))))) (cz SE)=some ((),((),(out,()))):=by kernel_rfl
theorem u0(F:FT)(x:ab)(d:ak):rn F 23 [0] (r5 0) (ar U0 ((),(((x,()),((d,()),())),()))) (cz U1)=some ((true,()),(((x,()),((d,()),((x,()),()))),())):=by kernel_rfl
theorem u2(F:FT)(b:Bool)(x y:ab)(d:ak):(rn F 23 [0] (r5 2) (ar U1 ((b,()),(((x,()),((d,()),((y,()),()))),()))) fun st=>rn F 23 [0] (r5 3) st (cz U2)) =(F 255 Ey ((d,((y.1,y.2),())),())).bind fun(r:((ab×(Bool×Unit))×Unit)) =>cond (not r.1.2.1) (some ((true,(r.1.2.1,())),(((x,()),((d,()),((r.1.1,()),()))),()))) (some (((((r.1.1.1.1==x.1.1)&&(r.1.1.1.2==x.1.2))&&(r.1.1.2==x.2)),(r.1.2.1,())),(((x,()),((d,()),((r.1.1,()),()))),()))):=by kernel_rfl
end Go.Vs
namespace Go.Vs
open Go.Proofs
variable {Z Z' Z0:Nat→Prop} {ψ ψ' ψ0:Nat→Value} {h h':Hp} {w w' w0:World} {B0:Nat} {O N:Nat→Prop}
abbrev hA(m:Tm)(f:List ab):Heap:=(ar S11 ((),(((m,()),((f,()),())),()))).heap
noncomputable abbrev bd:Code:=.block 3 (.seq (r6 10) (r6 11))
noncomputable def nV(st:LoopState)(fn:FuncId)(tm:Array Value)(D:Nat):Loop:={ state:=st,pending:=none,fn:=fn,tmps:=tm,params:=#[23],assign:=r6 9,body:=bd,defers:=D }
theorem Gu{i s off:Nat}{v:Value}(hz:∀b,Z b→Z' b)(hr:au Z ψ h w (.ref i s 0 off) v)(hi:h' i≠none→h i≠none∧ψ' i=ψ i):au Z' ψ' h' w' (.ref i s 0 off) v:=by simp only[au]at hr ⊢;obtain⟨a,h1,h2⟩:=hr;exact⟨a,h1,fun k=>by obtain⟨k1,k2⟩:=hi k;rw[k2];exact h2 k1⟩
structure Sl(tm:Array Value)(Z:Nat→Prop)(ψ:Nat→Value)(h:Hp)(w:World):Prop where
 n:tm.size=36
 t4:au Z ψ h w (.ref 20000 0 0 0) (tm.getD 4 undef)
 t7:au Z ψ h w (.ref 20001 0 0 0) (tm.getD 7 undef)
theorem Sl.of{tm:Array Value}{a:Act}{n:Nat}{T:Nat→AV}{Z'':Nat→Prop}{h'':Hp}{w'':World}{uq:Nat→Value}(s:Sl tm Z'' uq h'' w'')(t:cK Z ψ h w n T a)(e4:T 4=.ref 20000 0 0 0)(e7:T 7=.ref 20001 0 0 0)(k4:a.tmps.getD 4 undef=tm.getD 4 undef)(k7:a.tmps.getD 7 undef=tm.getD 7 undef):Sl tm Z ψ h w :=⟨s.n,by have:=t.rep 4;rw[e4,k4]at this;exact this,by have:=t.rep 7;rw[e7,k7]at this;exact this⟩
theorem oX{W:World}{l:Nat}{o o':Obj}(h:W.heap[l]? = some o):(W.putObj l o').heap[l]? = some o':=World.putObj_heap_same (abX.1 h).1
theorem xU{A:Nat→Prop}{W:World}{l:Nat}{o':Obj}:Tr (·=l) Z A W Z A (W.putObj l o') :=Tr.cq rfl rfl rfl (by simp) fun b _ hb=>World.putObj_heap_other hb
theorem nC{A:Nat→Prop}{W:World}{l:Nat}{o':Obj}(f:gY (·=l) Z A W):cj Z W (W.putObj l o'):=fun b hb=>World.putObj_heap_other fun e=>by subst e;exact(f b rfl).2.1 hb
theorem Good.putObj{W:World}{l:Nat}{o':Obj}(g:Good Z ψ h W B0 O)(f:gY (·=l) Z (Own ψ h) W):Good Z ψ h (W.putObj l o') B0 O:=by
 obtain⟨_,f2,f3⟩:=f l rfl;refine g.same (fun _ h=>h) (fun b hb=>World.putObj_heap_other fun e=>?_) (fun b hb hz=>?_) fun b hb=>by simpa using g.jO b hb
 ·subst e;exact hb.elim f2 f3
 ·obtain⟨i,h1,h2⟩:=hb;exact(g.live i b h1 h2).1 hz
structure Rnd(Z:Nat→Prop)(ψ:Nat→Value)(W:World)(B0:Nat)(O:Nat→Prop)(l:Nat)(rc:Loop)(m:Tm)(f:List ab)(y:ab)(tm:Array Value)(Z':Nat→Prop)(ψ':Nat→Value)(W':World):Prop where
 tr:Tr (·=l) Z (Own ψ (hA m f).get) W Z' (Own ψ' (hA (jn bL y true m) (f++[y])).get) W'
 g:Good Z' ψ' (hA (jn bL y true m) (f++[y])).get W' B0 O
 l:W'.heap[l]? = some (.loop rc)
 s:Sl tm Z' ψ' (hA (jn bL y true m) (f++[y])).get W'
theorem Sw(n:Nat){W:World}{m:Tm}{f:List ab}{y:ab}{vy:Value}{tm:Array Value}{l D:Nat}{fn:FuncId} (g:Good Z ψ (hA m f).get W B0 O) (hB0:B0≤W.heap.size) (s:Sl tm Z ψ (hA m f).get W) (hy:au Z ψ (hA m f).get W (b5 bL y) vy) (hf:f.length+1≤eE) (hl:W.heap[l]? = some (.loop (nV .ready fn tm D))) (fl:gY (·=l) Z (Own ψ (hA m f).get) W) :
  RoundIn (FW none) n Tryz.prog l fn (tm.setIfInBounds 23 vy) (r6 9) bd W fun e W'=>e=.returned (.bool true)∧∃Z' ψ',Rnd Z ψ W B0 O l (nV .ready fn tm D) m f y tm Z' ψ' W':=by
 refine roundIn_of_wpIn trivial ?_;have e4:(tm.setIfInBounds 23 vy).getD 4 undef=tm.getD 4 undef:=by simp[Array.getElem?_setIfInBounds_ne]
 have e7:(tm.setIfInBounds 23 vy).getD 7 undef=tm.getD 7 undef:=by simp[Array.getElem?_setIfInBounds_ne]
 have e23:(tm.setIfInBounds 23 vy).getD 23 undef=vy:=by simp[s.n]
 have t0:cK Z ψ (ar S9 ((y,()),(((m,()),((f,()),())),()))).heap.get W 36 (look (ar S9 ((y,()),(((m,()),((f,()),())),()))).tmps) { tmps:=tm.setIfInBounds 23 vy,defers:=[] }:=by
  refine eL (fun p hp=>?_) (by simp[s.n]) rfl;have hp:p∈[(23,b5 bL y),(4,AV.ref 20000 0 0 0),(7,AV.ref 20001 0 0 0)]:=hp;simp only[List.mem_cons,List.not_mem_nil,or_false]at hp;rcases hp with rfl|rfl|rfl
  ·show au _ _ _ _ _ ((tm.setIfInBounds 23 vy).getD 23 undef);rw[e23];exact hy
  ·show au _ _ _ _ _ ((tm.setIfInBounds 23 vy).getD 4 undef);rw[e4];exact s.t4
  ·show au _ _ _ _ _ ((tm.setIfInBounds 23 vy).getD 7 undef);rw[e7];exact s.t7
 refine wpIn_mono (dK qh (n9 F1 y m f) (some l) n [] (Good.start g) t0) ?_;rintro e a1 W1 ⟨rfl,a2,rfl,k1,iL,Z1,nW,Ys,Vj,t1⟩;obtain⟨Z2,dR,C6,t2⟩:=gq Ys Vj t1;have g2:=C6.Lr g hB0;have WW:Tr (·=l) Z (Own ψ (hA m f).get) W Z2 _ W1:=C6.tr;obtain⟨Pz,LQ⟩:=(C6.tr (L:=fun _=>False)).free fl fun _ _ h=>h;have zm:=(LQ l rfl).trans hl;refine⟨_,run_beginRound zm rfl,?_⟩;have g3:=g2.putObj (o':=.loop { nV .ready fn tm D with state:=.busy }) Pz;have tr3:Tr (·=l) Z (Own ψ (hA m f).get) W Z2 _ (W1.putObj l (.loop { nV .ready fn tm D with state:=.busy })):=WW.trans xU;have hl3:=oX (o':=.loop { nV .ready fn tm D with state:=.busy }) zm;have t3:cK Z2 dR (ar S10 ((),(((m,()),((f,()),((y,()),()))),()))).heap.get (W1.putObj l (.loop { nV .ready fn tm D with state:=.busy })) 36 (look (ar S10 ((),(((m,()),((f,()),((y,()),()))),()))).tmps) a2 :=⟨fun d=>(t2.rep d).less (fun _ h=>h) (nC Pz) (fun i hi=>⟨hi,rfl⟩),t2.size,t2.defers⟩;have fl3:gY (·=l) Z2 (Own dR (ar S10 ((),(((m,()),((f,()),((y,()),()))),()))).heap.get) (W1.putObj l (.loop { nV .ready fn tm D with state:=.busy })):=fun b hb=>by obtain⟨q1,q2,q3⟩:=Pz b hb;exact⟨by simpa using q1,q2,q3⟩
 refine wpIn_block (wpIn_seq ?_);have hn:=(n10 F1 y m f).trans (ae (decide_eq_true hf) rfl);refine wpIn_mono (dK qh hn (some l) n [] (Good.start g3) t3) ?_;rintro e a3 W3 ⟨rfl,a4,rfl,k4,st4,Z4,Bf,ag7,Yt,t4⟩;have hB3:B0≤(W1.putObj l (.loop { nV .ready fn tm D with state:=.busy })).heap.size:=acB hB0 tr3.size;refine wpIn_mono (dK qh ag7 (some l) n [] Yt t4) ?_;rintro e a5 W5 ⟨rfl,a6,rfl,k6,st6,Z6,ψ6,Yu,ok6,t6⟩;obtain⟨Z7,ψ7,ok7,t7⟩:=gq Yu ok6 t6;have g7:=ok7.Lr g3 hB3;obtain⟨fl7,hs7⟩:=(ok7.tr (L:=fun _=>False)).free fl3 fun _ _ h=>h;have hl7:=(hs7 l rfl).trans hl3;refine⟨_,_,run_endRound none hl7,rfl,Z7,ψ7,(tr3.trans ok7.tr).trans xU,g7.putObj fl7,oX hl7,?_⟩;have s7:Sl tm Z7 ψ7 (hA (jn bL y true m) (f++[y])).get W5:=s.of t7 rfl rfl ((k6 4 (by simp)).trans ((k4 4 (by simp)).trans ((k1 4 (by simp)).trans e4))) ((k6 7 (by simp)).trans ((k4 7 (by simp)).trans ((k1 7 (by simp)).trans e7)));exact⟨s7.n,s7.t4.less (fun _ h=>h) (nC fl7) (fun i hi=>⟨hi,rfl⟩),s7.t7.less (fun _ h=>h) (nC fl7) (fun i hi=>⟨hi,rfl⟩)⟩
def opsOf:Code→Array Oper
 |.region _ o _=>o
 |_=>#[]
noncomputable def Gv(i:Nat):Oper:=((opsOf (r5 1))[i]?).getD { dst:=none,op:=.move (.tmp 0),type:=0,pos:= "",after:=#[],guard:=none }
theorem Yv:r5 1=.region 1 (opsOf (r5 1)) false:=by kernel_rfl
theorem lP{o:Oper}{f:Nat→Option Bool}(h:o.guard=none):Region.wanted o f=true:=by unfold Region.wanted;rw[h]
theorem Sx(n:Nat){a:Act}{W:World}{l:Nat}{v8:Value}{Q:Exit→Act→World→Prop}(gE:a.tmps.size=23)(h0:a.tmps.getD 0 undef=.func (.yield l) #[] #[])(h4:(Instr.loadAt 33 (a.tmps.getD 4 undef)).run Tryz.prog W=.ok v8 W) {fn:FuncId} {tm:Array Value} {as_ bo:Code} (hy:(Instr.yield l #[v8]).run Tryz.prog W=.ok (.round l fn tm as_ bo) W) (hr:RoundIn (FW none) (n-1) Tryz.prog l fn tm as_ bo W fun e W'=>∃v,e=.returned v∧Q .normal (((a.put (some 7) (.func (.yield l) #[] #[])).put (some 8) v8).put (some 9) v) W'):(r5 1).wpIn (FW none) n Tryz.prog Q a W:=by
 rw[Yv];refine wpIn_region ?_;have hs:(opsOf (r5 1)).size=3:=by kernel_rfl
 have g0:(opsOf (r5 1))[0]? = some (Gv 0):=by kernel_rfl
 have g1:(opsOf (r5 1))[1]? = some (Gv 1):=by kernel_rfl
 have g2:(opsOf (r5 1))[2]? = some (Gv 2):=by kernel_rfl
 have p0:(Gv 0).op=.move (.tmp 0):=by kernel_rfl
 have p1:(Gv 1).op=.load 33 (.tmp 4):=by kernel_rfl
 have p2:(Gv 2).op=.call { callee:=.value (.tmp 7),args:=#[.tmp 8],argTypes:=#[33] }:=by kernel_rfl
 have d0:(Gv 0).dst=some 7:=by kernel_rfl
 have d1:(Gv 1).dst=some 8:=by kernel_rfl
 have d2:(Gv 2).dst=some 9:=by kernel_rfl
 have q0:(Gv 0).guard=none:=by kernel_rfl
 have q1:(Gv 1).guard=none:=by kernel_rfl
 have q2:(Gv 2).guard=none:=by kernel_rfl
 rw[hs,show List.range 3=[0,1,2] from rfl];simp only[wpOpsIn,g0,g1,g2];rw[if_pos (lP q0)];refine⟨fun _ _=>trivial,?_⟩;have e0:((Gv 0).semAt (FW none).round a.eval).run Tryz.prog W=.ok (.value (.func (.yield l) #[] #[])) W:=by show(execOp a.eval (Gv 0)).run _ _=_;unfold execOp;rw[p0];show Result.ok (Go.Next.value (a.tmps.getD 0 undef)) W=_;rw[h0]
 rw[e0,Oper.uponIn_value,d0];rw[if_pos (lP q1)];refine⟨fun _ _=>trivial,?_⟩;have e1:((Gv 1).semAt (FW none).round (a.put (some 7) (.func (.yield l) #[] #[])).eval).run Tryz.prog W=.ok (.value v8) W:=by
  show(execOp _ (Gv 1)).run _ _=_;unfold execOp;rw[p1];have e4:(a.put (some 7) (.func (.yield l) #[] #[])).eval (.tmp 4)=a.tmps.getD 4 undef:=bT a _ fun j hj=>by cases hj;decide
  show((do pure (Go.Next.value (←Instr.loadAt 33 ((a.put (some 7) (.func (.yield l) #[] #[])).eval (.tmp 4)))):Sem Go.Next)).run _ _=_;rw[e4,Sem.run_bind,h4];rfl
 rw[e1,Oper.uponIn_value,d1];rw[if_pos (lP q2)];refine⟨fun _ _=>trivial,?_⟩;obtain⟨b,hb⟩:∃b,b=((a.put (some 7) (.func (.yield l) #[] #[])).put (some 8) v8):=⟨_,rfl⟩;have e7:b.eval (.tmp 7)=.func (.yield l) #[] #[]:=by rw[hb];show((a.put (some 7) (.func (.yield l) #[] #[])).put (some 8) v8).tmps.getD 7 undef=_;rw[bT _ _ (fun j hj=>by cases hj;decide)];simp[Act.put,gE]
 have e8:b.eval (.tmp 8)=v8:=by rw[hb];show((a.put (some 7) (.func (.yield l) #[] #[])).put (some 8) v8).tmps.getD 8 undef=_;simp[Act.put,gE]
 have e2:((Gv 2).semAt (FW none).round b.eval).run Tryz.prog W=.ok (.round l fn tm as_ bo) W:=by
  show(execOp _ (Gv 2)).run _ _=_;unfold execOp;rw[p2];show((do let d ←Go.resolve b.eval { callee:=.value (.tmp 7),args:=#[.tmp 8],argTypes:=#[33] } (Gv 2).type;invoke d.target d.args:Sem Go.Next)).run _ _=_;unfold Go.resolve;have hm:(#[Operand.tmp 8]:Array Operand).map b.eval=#[b.eval (.tmp 8)]:=by simp
  show((do let d ←Deferred.ofValue (b.eval (.tmp 7)) ((#[Operand.tmp 8]:Array Operand).map b.eval);invoke d.target d.args:Sem Go.Next)).run _ _=_;rw[hm,e7,e8];exact hy
 rw[←hb,e2,Oper.uponIn_round,d2];refine⟨fun hh=>(by cases hh),hr.mono fun e W' ⟨v,h1,h2⟩=>?_⟩;subst h1;rw[hb];exact h2
end Go.Vs
