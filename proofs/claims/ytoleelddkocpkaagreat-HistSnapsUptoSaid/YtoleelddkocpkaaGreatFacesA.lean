/- The walk of the function that -/
import Derived.Test.YtoleelddkocpkaaGreatPlanar
import Derived.RangeFuncLeaves
import Derived.RangeFuncCalls
import Derived.RangeFuncNested
import Derived.Shelf.Abstract
import Derived.OwnWalkIn
import Derived.TacticsInMore
import Derived.LoopNIn
import Derived.LoopIn
set_option linter.unusedSimpArgs false
set_option linter.unusedVariables false
namespace Go.Vs
open Go.Proofs
variable {P:Program} {Eqs:TypeId→Option K} {Sg:FuncId→Option aO} {F:(f:FuncId)→(g:aO)→g.A→Option g.B} {R:Type}
variable {Z Z' Z0:Nat→Prop} {ψ ψ' ψ0:Nat→Value} {h h':Hp} {w w' w0:World} {B0:Nat} {O N:Nat→Prop}
abbrev FW(r:Option Nat):Fence:={ Fence.wide with round:=r }
theorem Xy{r:Option Nat}{n:Nat}{f:FuncId}{args:Array Value}{R:Ending→World→Prop}(h:Calls P f args w R):CallsIn (FW r) n P f args w R :=(callsIn_wide.2 h:CallsIn Fence.wide n P f args w R)
theorem zM{r:Option Nat}{n:Nat}{f:FuncId}{args:Array Value}{R:Ending→World→Prop}(h:CallsIn (FW r) n P f args w R):Calls P f args w R :=callsIn_wide.1 (show CallsIn Fence.wide n P f args w R from h)
def mz(ds:List Deferred)(a:Act):Act:={ a with defers:=a.defers++ds }
theorem eF(a:Act):mz [] a=a:=by cases a;simp[mz]
theorem xO(ds:List Deferred)(a:Act):(mz ds a).eval=a.eval:=funext fun x=>by rfl
theorem ni(ds:List Deferred)(a:Act)(d:Option Tmp)(v:Value):(mz ds a).put d v=mz ds (a.put d v):=by cases d<;>rfl
theorem dx(a:Act){d:Option Tmp}(v:Value){i:Nat}(h:∀j,d=some j→i≠j):(a.put d v).tmps.getD i undef=a.tmps.getD i undef:=by
 cases d with
 |none=>rfl
 |some j=>simp[Act.put,Array.getElem?_setIfInBounds_ne (Ne.symm (h j rfl))]
def ah1:Op→Bool
 |.defer _=>false
 |_=>true
def QY(keep:List Nat)(ops:Array Oper):Bool:=ops.all fun o=>ah1 o.op&&(match o.dst with|some d => !(keep.contains d)|none=>true)
theorem Pw{keep:List Nat}{ops:Array Oper}(hk:QY keep ops=true){i:Nat}{o:Oper}(ho:ops[i]? = some o):(∀c,o.op≠.defer c)∧∀d,o.dst=some d→d∉keep:=by have:=adV.1 hk o (aeH ho);simp only[Bool.and_eq_true]at this;obtain⟨h1,h2⟩:=this;refine⟨fun c hc=>(by rw[hc]at h1;cases h1),fun d hd=>?_⟩;simp_all
theorem FU{ops:Array Oper}{Q:Exit→Act→World→Prop}(r:Option Nat)(n:Nat)(ds:List Deferred){keep:List Nat}(b:Nat→Value)(hQ:∀e a w,Q e a w→e=.normal)(hk:QY keep ops=true) :
  ∀(l:List Nat) (a:Act) (w:World),wpOps P ops Q l a w→(∀d,d∈keep→a.tmps.getD d undef=b d) → wpOpsIn (FW r) n P ops (fun e a' w'=>e=.normal∧∃a0,a'=mz ds a0∧(∀d,d∈keep→a0.tmps.getD d undef=b d)∧Q .normal a0 w') l (mz ds a) w
 |[],a,w,h,hb=>⟨rfl,a,rfl,hb,h⟩
 |i::rest,a,w,h,hb=>by
  have ih:=FU r n ds b hQ hk rest;simp only[wpOps]at h;simp only[wpOpsIn]
  cases ho:ops[i]? with
  |none=>simp_all
  |some o =>
   simp only[ho]at h ⊢;obtain⟨hd,oE⟩:=Pw hk ho;have put:∀v,∀d,d∈keep→(a.put o.dst v).tmps.getD d undef=b d:=fun v d hm=>(dx a v fun j hj e=>oE j hj (e▸hm)).trans (hb d hm);have hw0:Region.wanted o (yielded ops (mz ds a).tmps)=Region.wanted o (yielded ops a.tmps):=rfl;by_cases hw:Region.wanted o (yielded ops a.tmps)=true
   ·rw[if_pos hw]at h;rw[if_pos (hw0.trans hw)];rcases h with h|⟨_,a1,w1,h1⟩
    rotate_left
    ·grind
    refine⟨fun _ _=>trivial,?_⟩;rw[Oper.semAt_eq _ _ _ hd,xO];unfold Oper.wp at h;generalize (execOp a.eval o).run P w=res at h ⊢
    cases res with
    |ok x w1 =>
     cases x with
     |value v=>show wpOpsIn _ _ _ _ _ _ _ _;rw[ni];exact ih _ _ h (put v)
     |skip=>show wpOpsIn _ _ _ _ _ _ _ _;rw[ni];exact ih _ _ h (put undef)
     | «defer» d =>
      show wpOpsIn _ _ _ _ _ _ _ _;have:=ih _ _ h (fun d' hm=>by
       have e:({ a with defers:=d::a.defers }:Act).put o.dst undef={ (a.put o.dst undef) with defers:=d::a.defers }:=by cases o.dst<;>rfl
       simp_all)
      rw[←ni]at this;exact this
     |enter f args =>
      refine⟨fun hh=>(by cases hh),Xy (Calls.mono h fun e w2 he=>?_)⟩
      cases e with
      |returned v=>grind [ni]
      |panicked ch=>grind
      |outgrown=>obtain⟨a1,w1,h1⟩:=he;grind
     |row row args =>
      refine⟨fun hh=>(by cases hh),?_⟩;intro c cs _;obtain⟨v,w2,h1,h2⟩:=h c cs;refine⟨v,w2,?_,stepsIn_wide.2 h2⟩
      grind [ni]
     |_=>cases h
    |halt x w1 =>cases x<;>first|cases hQ _ _ _ h|cases h
   ·rw[if_neg hw]at h;rw[if_neg (fun k=>hw (hw0.symm.trans k)),ni];exact⟨fun _ _=>trivial,ih _ _ h (put undef)⟩
theorem Px(V:Env P Eqs Sg F){n rid:Nat}{ops:Array Oper}{st:St}{kk:St→Option R}{r:R}{a:Act}{Q:Exit→Act→World→Prop} (hx:jC P Eqs Sg F n rid ops false st kk=some r) (k:Ok Z0 w0 O ψ0 Z ψ st.heap.get w) (t:dm Z ψ st.heap.get w n (look st.tmps) a) (hQ:∀fB Z ψ a w,kk fB=some r→Ok Z0 w0 O ψ0 Z ψ fB.heap.get w→dm Z ψ fB.heap.get w n (look fB.tmps) a→Q .normal a w):wpOps P ops Q (List.range ops.size) a w:=by
 obtain⟨b,hbe,hx⟩:∃b,b=(if false=true then Region.before ops else #[])∧(if(ops.all fun o=>jB n o)&&(!false || (xZ ops b&&(DE ops b&&cw (ops.toList.filterMap (·.dst)))))&&decide (ops.size≤128) then
  bJ P Eqs Sg F rid false ops b (ops.toList.zipIdx.map fun p=>(p.2,p.1)) (nw false rid ops st) kk else none)=some r:=⟨_,rfl,hx⟩
 split at hx
 ·rename_i hc;simp only[Bool.and_eq_true,decide_eq_true_eq]at hc;obtain⟨⟨oE,hdr⟩,iY⟩:=hc;have HV:∀(i:Nat) (o:Oper),ops[i]? = some o→jB n o=true:=fun i o ho=>adV.1 oE o (aeH ho);have pk:Ok Z0 w0 O ψ0 Z ψ (oU rid st.heap).get w:=k.sub k.du.nw fun id=>lR;have pt:dm Z ψ (oU rid st.heap).get w n (fun d=>bS rid (look st.tmps d)) a :=⟨fun d=>AL ((t.rep d).less (fun _ h=>h) (cG.refl _ _) fun i hi=>⟨lR hi,rfl⟩),t.size,t.defers⟩;have pm:wz (oD rid fun _=>False) (oU rid st.heap).get:=fun i ty cs hb=>by
   obtain⟨_,o',h1,h2⟩:=jH hb
   cases o' with
   |own ok xs=>cases h2
   |box KG cs'=>cases h2;exact jT cs'
  have Qd:look (st.tmps.map fun p=>(p.1,bS rid p.2))=fun d=>bS rid (look st.tmps d):=funext fun d=>Eo (bS rid) (by rfl) st.tmps d;rw[←HS ops]
  cases Zr:ops.any (makes ·.op) with
  |false =>
   have hp:nw false rid ops st=st:=by grind [nw]
   rw[hp]at hx;refine mX V (rid:=rid) (n:=n) (b:=_) false (fun _ i o ho=>?_) iY HV hQ _ 0 st Z ψ a w (qn ops) hx ⟨k,t,fun d=>?_,fun i ty cs hb=>?_⟩
   ·grind
   ·exact(aM.top _).imp fun id _ h=>by cases h
   ·exact(aF.top _).imp fun id _ h=>by cases h
  |true =>
   have hp:nw false rid ops st={ tmps:=st.tmps.map fun p=>(p.1,bS rid p.2),heap:=oU rid st.heap }:=by unfold nw;rw[Zr];rfl
   rw[hp]at hx;refine mX V (rid:=rid) (n:=n) (b:=_) true (fun h=>by cases h) iY HV hQ _ 0 _ Z ψ a w (qn ops) hx ⟨pk,by simp_all,fun d=>?_,fun i ty cs hb=>?_⟩
   ·rw[Qd];exact(rM _).imp fun id h1 _ h2=>(h1 h2).elim
   ·exact(pm i ty cs hb).imp fun id h1 _ h2=>(h1 h2).elim
 ·cases hx
noncomputable def adL(P:Program)(Eqs:TypeId→Option K)(Sg:FuncId→Option aO)(F:(f:FuncId)→(g:aO)→g.A→Option g.B)(n:Nat)(keep:List Nat)(c:Code)(st:St)(kk:St→Option R):Option R :=match c with
 |.region rid ops false=>if QY keep ops=true then jC P Eqs Sg F n rid ops false st kk else none
 |_=>none
structure Aft(n:Nat)(keep:List Nat)(b:Nat→Value)(ds:List Deferred)(kk:St→Option R)(x:R)(Z0:Nat→Prop)(w0:World)(O:Nat→Prop)(ψ0:Nat→Value)(e:Exit)(a':Act)(w':World):Prop where
 e:e=.normal
 ex:∃a0,a'=mz ds a0∧(∀d,d∈keep→a0.tmps.getD d undef=b d)∧∃fB Z' ψ',kk fB=some x∧Ok Z0 w0 O ψ0 Z' ψ' fB.heap.get w'∧dm Z' ψ' fB.heap.get w' n (look fB.tmps) a0
theorem eR(V:Env P Eqs Sg F){n:Nat}{keep:List Nat}{c:Code}{st:St}{kk:St→Option R}{x:R}(hx:adL P Eqs Sg F n keep c st kk=some x)(r:Option Nat)(m:Nat)(ds:List Deferred){a:Act} (k:Ok Z0 w0 O ψ0 Z ψ st.heap.get w) (t:dm Z ψ st.heap.get w n (look st.tmps) a):c.wpIn (FW r) m P (Aft n keep (fun d=>a.tmps.getD d undef) ds kk x Z0 w0 O ψ0) (mz ds a) w:=by
 unfold adL at hx
 split at hx
 ·rename_i rid ops
  split at hx
  ·rename_i hk;have h1:=Px V hx k t (Q:=fun e a w=>e=.normal∧∃fB Z' ψ',kk fB=some x∧Ok Z0 w0 O ψ0 Z' ψ' fB.heap.get w∧dm Z' ψ' fB.heap.get w n (look fB.tmps) a) fun fB Z' ψ' a w h1 h2 h3=>⟨rfl,fB,Z',ψ',h1,h2,h3⟩;have h2:=FU r m ds (keep:=keep) (fun d=>a.tmps.getD d undef) (fun _ _ _ h=>h.1) hk _ a w h1 fun _ _=>rfl;refine wpIn_mono (wpIn_region h2) ?_;rintro e a' w' ⟨h3,a0,h4,h5,h6⟩;exact⟨h3,a0,h4,h5,h6.2⟩
  ·cases hx
 ·cases hx
end Go.Vs
namespace Go.Vs
open Go.Proofs
variable {Z Z' Z0:Nat→Prop} {ψ ψ' ψ0 pV fg:Nat→Value} {h h' h1 h2:Hp} {w w' w0:World} {B0:Nat} {O N:Nat→Prop}
theorem Good.start(g:Good Z ψ h w B0 O):Ok Z w (Own ψ h) ψ Z ψ h w :=⟨g.Js _,fun _ h=>h,fun _ h=>.inl h,rfl,rfl,rfl,abX _,fun _ _ _=>rfl,fun _ _ _=>rfl⟩
theorem Good.Xz{B1:Nat}{O1:Nat→Prop}(g:Good Z ψ h w B0 O)(hl:∀b,Own ψ h b→B0≤b∨O b→B1≤b∨O1 b):Good Z ψ h w B1 O1 :=⟨g.box,g.row,fun i b h1 h2=>⟨(g.live i b h1 h2).1,hl b ⟨i,h1,h2⟩ (g.live i b h1 h2).2⟩,g.apart,g.kO⟩
theorem Good.same(g:Good Z ψ h w B0 O)(hz:∀b,Z b→Z' b)(hs:∀b,Z b∨Own ψ h b→w'.heap[b]? = w.heap[b]?)(hn:∀b,Own ψ h b→¬Z' b)(hl:∀b,Z' b→b<w'.heap.size):Good Z' ψ h w' B0 O:=by
 have sm:cG Z w w':=fun b hb=>hs b (.inl hb);refine⟨fun i ty cs hb=>?_,fun i ok x hb=>?_,fun i b h1 h2=>⟨hn b ⟨i,h1,h2⟩,(g.live i b h1 h2).2⟩,g.apart,hl⟩
 ·obtain⟨q,vs,e1,e2,e3,e4⟩:=g.box i ty cs hb;exact⟨q,vs,e1,(hs q (.inr ⟨i,by rw[hb];simp,by rw[e1];rfl⟩)).trans e2,e3.less hz sm fun _ hi=>⟨hi,rfl⟩,e4⟩
 ·exact(g.row i ok x hb).kept hz sm fun q hq=>hs q (.inr ⟨i,by rw[hb];simp,hq⟩)
def iX(X Z A:Nat→Prop)(w:World):Prop:=∀b,X b→b<w.heap.size∧¬Z b∧¬A b
structure Tr(L Z A:Nat→Prop)(w:World)(Z' B:Nat→Prop)(w':World):Prop where
 g9:∀b,Z b→Z' b
 fq:∀b,Z' b→Z b∨A b∨w.heap.size≤b
 own:∀b,B b→A b∨w.heap.size≤b
 os:w'.os=w.os
 tape:w'.tape=w.tape
 output:w'.output=w.output
 size:w.heap.size≤w'.heap.size
 block:∀b,b<w.heap.size→¬A b→¬L b→w'.heap[b]? = w.heap[b]?
variable {L X A B C:Nat→Prop} {Z3:Nat→Prop} {w3:World}
theorem Tr.refl:Tr L Z A w Z A w:=⟨fun _ h=>h,fun _ h=>.inl h,fun _ h=>.inl h,rfl,rfl,rfl,abX _,fun _ _ _ _=>rfl⟩
theorem Tr.trans(s:Tr L Z A w Z' B w')(t:Tr L Z' B w' Z3 C w3):Tr L Z A w Z3 C w3:=by
 have up:∀b,B b∨w'.heap.size≤b→A b∨w.heap.size≤b:=fun b hb=>hb.elim (s.own b) fun e=>.inr (acR s.size e);refine⟨fun b hb=>t.g9 b (s.g9 b hb),fun b hb=>?_,fun b hb=>up b (t.own b hb),t.os.trans s.os,t.tape.trans s.tape,t.output.trans s.output,acR s.size t.size,fun b h1 h2 h3=>?_⟩
 ·rcases t.fq b hb with e|e
  ·exact s.fq b e
  simp_all
 ·rw[t.block b (Nat.lt_of_lt_of_le h1 s.size) (fun e=>(s.own b e).elim h2 fun e=>by omega) h3];exact s.block b h1 h2 h3
theorem Tr.beside(t:Tr L Z A w Z' B w')(C:Nat→Prop):Tr L Z (fun b=>A b∨C b) w Z' (fun b=>B b∨C b) w' :=⟨t.g9,fun b hb=>(t.fq b hb).imp (fun h=>h) fun h=>h.imp .inl fun h=>h,fun b hb=>hb.elim (fun h=>(t.own b h).imp .inl fun h=>h) fun h=>.inl (.inr h),t.os,t.tape,t.output,t.size,fun b h1 h2 h3=>t.block b h1 (fun h=>h2 (.inl h)) h3⟩
theorem Tr.less(t:Tr L Z A w Z' B w'){A' B' L':Nat→Prop}(ha:∀b,A b→A' b)(hb:∀b,B' b→B b)(hl:∀b,L b→L' b):Tr L' Z A' w Z' B' w' :=⟨t.g9,fun b h=>(t.fq b h).imp (fun h=>h) fun h=>h.imp (ha b) fun h=>h,fun b h=>(t.own b (hb b h)).imp (ha b) fun h=>h,t.os,t.tape,t.output,t.size,fun b h1 h2 h3=>t.block b h1 (fun h=>h2 (ha b h)) fun h=>h3 (hl b h)⟩
theorem Ok.tr(k:Ok Z w (Own ψ h) ψ Z' ψ' h' w'):Tr L Z (Own ψ h) w Z' (Own ψ' h') w' :=⟨k.g9,k.fq,fun b ⟨i,h1,h2⟩=>(k.du.live i b h1 h2).2.symm,k.os,k.tape,k.output,k.size,fun b h1 h2 _=>k.block b h1 h2⟩
theorem Ok.Py(k:Ok Z w (Own ψ h) ψ Z' ψ' h' w')(g:Good Z ψ h w B0 O)(hB:B0≤w.heap.size):Good Z' ψ' h' w' B0 O :=k.du.Xz fun b _ hb=>hb.elim (fun e=>.inl (acR hB e)) fun⟨i,h1,h2⟩=>(g.live i b h1 h2).2
theorem Tr.cZ(h1:w'.os=w.os)(h2:w'.tape=w.tape)(h3:w'.output=w.output)(h4:w.heap.size≤w'.heap.size)(h5:∀b,b<w.heap.size→¬L b→w'.heap[b]? = w.heap[b]?):Tr L Z A w Z A w' :=⟨fun _ h=>h,fun _ h=>.inl h,fun _ h=>.inl h,h1,h2,h3,h4,fun b hb _ hl=>h5 b hb hl⟩
theorem Tr.Na(t:Tr L Z A w Z' B w')(f:iX X Z A w):iX X Z' B w':=fun b hb=>by
 obtain⟨h1,h2,h3⟩:=f b hb;refine⟨adf h1 t.size,fun hz=>?_,fun ho=>?_⟩
 ·rcases t.fq b hz with e|e|e
  ·exact h2 e
  ·exact h3 e
  ·omega
 ·rcases t.own b ho with e|e
  ·exact h3 e
  ·omega
theorem Tr.free(t:Tr L Z A w Z' B w')(f:iX X Z A w)(hl:∀b,X b→¬L b):iX X Z' B w'∧∀b,X b→w'.heap[b]? = w.heap[b]? :=⟨t.Na f,fun b hb=>t.block b (f b hb).1 (f b hb).2.2 (hl b hb)⟩
theorem Tr.same(t:Tr L Z A w Z' B w')(hz:∀b,Z b→b<w.heap.size∧¬A b)(hl:∀b,Z b→¬L b):cG Z w w':=fun b hb=>t.block b (hz b hb).1 (hz b hb).2 (hl b hb)
theorem Good.zA(g:Good Z ψ h w B0 O):∀b,Z b→b<w.heap.size∧¬Own ψ h b:=fun b hb=>⟨g.kO b hb,fun⟨i,h1,h2⟩=>(g.live i b h1 h2).1 hb⟩
theorem Tr.part(t:Tr L Z A w Z' B w')(hz:∀b,Z b→¬A b)(g2:Good Z fg h2 w B0 O)(f:iX (Own fg h2) Z A w)(hl:∀b,Z b∨Own fg h2 b→¬L b)(zl:∀b,Z' b→b<w'.heap.size):Good Z' fg h2 w' B0 O:=by
 obtain⟨f1,f2⟩:=t.free f fun b hb=>hl b (.inr hb);refine g2.same t.g9 (fun b hb=>?_) (fun b hb=>(f1 b hb).2.1) zl;rcases hb with hb|hb
 ·exact t.same (fun b hb=>⟨g2.kO b hb,hz b hb⟩) (fun b hb=>hl b (.inl hb)) b hb
 simp_all
structure Wk(Z0:Nat→Prop)(w0:World)(O:Nat→Prop)(Z:Nat→Prop)(w:World):Prop where
 g9:∀b,Z0 b→Z b
 fq:∀b,Z b→Z0 b∨O b∨w0.heap.size≤b
 os:w.os=w0.os
 tape:w.tape=w0.tape
 output:w.output=w0.output
 size:w0.heap.size≤w.heap.size
 block:∀b,b<w0.heap.size→¬O b→w.heap[b]? = w0.heap[b]?
theorem Wk.start(Z:Nat→Prop)(w:World)(O:Nat→Prop):Wk Z w O Z w:=⟨fun _ h=>h,fun _ h=>.inl h,rfl,rfl,rfl,abX _,fun _ _ _=>rfl⟩
theorem Wk.step(b:Wk Z0 w0 O Z w)(t:Tr L Z A w Z' B w')(own:∀q,A q→w0.heap.size≤q∨O q)(hl:∀b,L b→w0.heap.size≤b):Wk Z0 w0 O Z' w':=by
 refine⟨fun q hq=>t.g9 q (b.g9 q hq),fun q hq=>?_,t.os.trans b.os,t.tape.trans b.tape,t.output.trans b.output,acR b.size t.size,fun q hq ho=>?_⟩
 ·rcases t.fq q hq with e|e|e
  ·exact b.fq q e
  ·grind
  ·exact .inr (.inr (acR b.size e))
 ·rw[t.block q (Nat.lt_of_lt_of_le hq b.size) (fun e=>(own q e).elim (fun e=>by omega) ho) fun e=>by grind];exact b.block q hq ho
theorem Good.from(g:Good Z ψ h w B0 O):∀q,Own ψ h q→B0≤q∨O q:=fun q ⟨i,h1,h2⟩=>(g.live i q h1 h2).2
open Classical in
noncomputable def sy(h1:Hp)(pV fg:Nat→Value)(i:Nat):Value:=if h1 i=none then fg i else pV i
theorem qQ{i:Nat}(h:h1 i≠none):sy h1 pV fg i=pV i:=if_neg h
theorem qR{i:Nat}(h:h1 i=none):sy h1 pV fg i=fg i:=if_pos h
theorem Good.join{a b:Heap}(g1:Good Z pV a.get w B0 O)(g2:Good Z fg b.get w B0 O)(dis:∀i,a.get i≠none→b.get i=none)(ap:∀q,Own pV a.get q→¬Own fg b.get q) (m1:∀i ty cs,a.get i=some (.box ty cs)→aF (fun j=>a.get j≠none) cs) (m2:∀i ty cs,b.get i=some (.box ty cs)→aF (fun j=>b.get j≠none) cs):Good Z (sy a.get pV fg) (a++b).get w B0 O:=by
 have get:∀i,(a++b).get i=match a.get i with|some o=>some o|none=>b.get i:=fun i=>Heap.get_append a b i
 have ah2:∀{i o},a.get i=some o→(a++b).get i=some o:=fun {i o} e=>by rw[get,e]
 have adM:∀{i},a.get i=none→(a++b).get i=b.get i:=fun {i} e=>by rw[get,e]
 have nn:∀{i},(a++b).get i≠none→(a.get i≠none∧sy a.get pV fg i=pV i)∨(a.get i=none∧b.get i≠none∧sy a.get pV fg i=fg i):=fun {i} hi=>by
  cases e:a.get i with
  |some o=>exact .inl ⟨by simp,qQ (by rw[e];simp)⟩
  |none=>rw[adM e]at hi;exact .inr ⟨rfl,hi,qR e⟩
 refine⟨fun i ty cs hb=>?_,fun i ok x hb=>?_,fun i q h1 h2=>?_,fun i j q h1 h2 h3 h4=>?_,g1.kO⟩
 ·cases e:a.get i with
  |some o =>rw[ah2 e]at hb;cases hb;obtain⟨q,vs,e1,e2,e3,e4⟩:=g1.box i ty cs e;exact⟨q,vs,(qQ (by rw[e];simp)).trans e1,e2,e3.move (fun _ h=>h) (cG.refl _ _) (fun j hj _=>⟨hj,qQ hj⟩) (m1 i ty cs e),e4⟩
  |none =>
   rw[adM e]at hb;obtain⟨q,vs,e1,e2,e3,e4⟩:=g2.box i ty cs hb;refine⟨q,vs,(qR e).trans e1,e2,e3.move (fun _ h=>h) (cG.refl _ _) (fun j hj _=>⟨hj,qR ?_⟩) (m2 i ty cs hb),e4⟩
   cases k:a.get j with
   |none=>rfl
   |some _=>exact absurd (dis j (by rw[k];simp)) hj
 ·cases e:a.get i with
  |some o=>rw[ah2 e]at hb;cases hb;rw[qQ (by rw[e];simp)];exact g1.row i ok x e
  |none=>rw[adM e]at hb;rw[qR e];exact g2.row i ok x hb
 ·rcases nn h1 with⟨e1,e2⟩|⟨_,e1,e2⟩<;>rw[e2]at h2
  ·exact g1.live i q e1 h2
  ·exact g2.live i q e1 h2
 ·rcases nn h1 with⟨e1,e2⟩|⟨_,e1,e2⟩<;>rcases nn h2 with⟨e3,e4⟩|⟨_,e3,e4⟩<;>rw[e2]at h3<;>rw[e4]at h4
  ·exact g1.apart i j q e1 e3 h3 h4
  ·exact absurd ⟨j,e3,h4⟩ (ap q ⟨i,e1,h3⟩)
  ·exact absurd ⟨i,e1,h3⟩ (ap q ⟨j,e3,h4⟩)
  ·exact g2.apart i j q e1 e3 h3 h4
end Go.Vs
namespace Go.Vs
open Go.Proofs Go.RowKit Go.Shelf
theorem aak(F:Fence)(n:Nat)(h5:F.fn 224)(hro:F.round=none)(x y:Array Value)(w:World) :
  CallsIn F n Tryz.prog 224 #[.agg x,.agg y] w fun e w'=>e=.returned (.func (.func 234) #[] #[.pointer (some ⟨w.heap.size+1,0,none⟩),.pointer (some ⟨w.heap.size,0,none⟩)])∧w'=(w.alloc (.cells x 27)).alloc (.cells y 40):=by
 refine callsIn_of_wp Tryz.func224 rfl h5 ?_ hro;simp only[Tryz.ntmps224,List.size_toArray,List.length_cons,List.length_nil,Nat.reduceAdd,Nat.reduceSub,Array.replicate_succ,Array.replicate_zero,List.push_toArray,List.append_toArray,List.nil_append,List.cons_append]
 gi_wp2
 go_ret
 simp_all
def Pz(h:Heap)(id:Nat):List AV→Option (Bool×bD)
 |[.agg a,.agg b]=>match dM dX a,dM bz b with
  |some d,some x=>some (true,.new (.fn 234 [.ref (id+129) 0 0 0,.ref (id+128) 0 0 0]) [(id+128,.box 27 (enc dX d)),(id+129,.box 40 (enc bz x))])
  |_,_=>none
 |_=>none
theorem uD(d:dX.T)(p:Nat→Prop):aF p (enc dX d):=by show aF p [.sl false dh d.1,.sl false dG d.2];simp[aF,aM]
theorem Nb(x:bz.T)(p:Nat→Prop):aF p (enc bz x):=by show aF p [.int .i64 x.1.1,.int .i64 x.1.2,.int .i64 x.2];simp[aF,aM]
theorem Kn:hZ Tryz.prog 224 Pz:=by
 intro Z ψ h w B0 O N hh id e vs us g hB br hN bm nD pU Cw he;unfold Pz at he
 split at he
 rotate_left
 ·cases he
 rename_i a b
 split at he
 rotate_left
 ·cases he
 rename_i d x hd hx;simp only[Option.some.injEq,Prod.mk.injEq,true_and]at he;subst he;simp only[az,aD]at pU;obtain⟨_,_,rfl,⟨xs,rfl,BJ⟩,_,_,rfl,⟨ys,rfl,R8⟩,rfl⟩:=pU;have k1:=dN hd BJ;have k2:=dN hx R8;have n0:N (id+128):=hN 128 (by omega);have n1:N (id+129):=hN 129 (by omega);have b1:=yi g hB (id+128) 27 n0 (iH (h:=h) (ψ:=ψ) k1) k1.one (fun i ty cs hb=>aF.imp (p:=fun j=>¬N j) (q:=fun j=>j≠id+128) (fun j hj e=>hj (by simp_all)) (bm i ty cs hb)) (uD d _);have sz:B0≤(w.alloc (.cells xs 27)).heap.size:=by rw[World.size_alloc];omega
 have k2':=k2.mono (fun _ h=>h) (b1.same g);have b2:=yi b1.du sz (id+129) 40 n1 (iH k2') k2.one (fun i ty cs hb=>by
  grind [eI,uD,aF.imp,id]) (Nb x _)
 refine(zM (aak (FW none) 3 trivial rfl xs ys w)).mono fun en w' ⟨e1,e2⟩=>?_;subst e2;have hH:(bD.new (.fn 234 [.ref (id+129) 0 0 0,.ref (id+128) 0 0 0]) [(id+128,.box 27 (enc dX d)),(id+129,.box 40 (enc bz x))]).hp h=eI (eI h (id+128) (some (.box 27 (enc dX d)))) (id+129) (some (.box 40 (enc bz x))):=by
  funext i;show(match Heap.get _ i with|some o=>some o|none=>h i)=_;unfold eI;by_cases h1:i=id+129
  ·grind [Heap.get]
  ·by_cases h2:i=id+128
   ·grind [Heap.get]
   simp_all [Heap.get,Ne.symm]
 refine⟨_,Z,eI (eI ψ (id+128) (.pointer (some ⟨w.heap.size,0,none⟩))) (id+129) (.pointer (some ⟨(w.alloc (.cells xs 27)).heap.size,0,none⟩)),e1,?_,?_⟩
 ·rw[hH];refine⟨fun _ h=>h,fun _ h=>.inl h,⟨rfl,rfl,rfl,by grind [World.size_alloc],fun q hq _=>?_⟩,fun i hi=>?_,b2.du⟩
  ·grind [heap_alloc_old,World.size_alloc]
  ·rcases b2.ids i hi with⟨h1,h2⟩|h1
   ·rcases b1.ids i h1 with⟨h3,h4⟩|h3
    ·simp_all
    simp_all
   simp_all
 ·rw[hH];simp only[bD.v,aD,az];refine⟨_,rfl,_,_,rfl,⟨_,rfl,fun _=>?_⟩,_,_,rfl,⟨_,rfl,fun _=>?_⟩,rfl⟩
  ·rw[bg];show(⟨w.heap.size+1,0,none⟩:Addr)=⟨(w.alloc (.cells xs 27)).heap.size,0*0+0,none⟩;simp_all
  ·rw[dO _ _ (by omega),bg];rfl
def aal:aO:={ ps:=[],bs:=[],rs:=[],x:=some Pz }
def SgF(f:FuncId):Option aO:=if f=224 then some aal else Sg f
end Go.Vs
namespace Go.Vs
open Go.Proofs
noncomputable abbrev F0:FT:=FX ZF
theorem ah4{f:FuncId}{g:aO}{x:g.A}{y:g.B}(hs:Sg f=some g)(h:F0 f g x=some y):HM Tryz.prog f g x y :=C3 Wz Fg mL vx (fun f g u x y _ hu _=>by cases hu) hs h
theorem hg0:HG ZF:=fun _ _ _=>rfl
theorem Ko{f:FuncId}{g:aO}(h:SgF f=some g):(f=224∧g=aal)∨Sg f=some g:=by
 unfold SgF at h
 grind
noncomputable def F1:FT:=fun f g x=>if f=224 then none else F0 f g x
theorem XA{f:FuncId}{g:aO}{x:g.A}{y:g.B}(hf:(f==224)=false)(h:F0 f g x=some y):F1 f g x=some y:=by simp_all [F1,if_neg]
theorem sB:Env Tryz.prog Eqs SgF F1 where
 eqs:=Fg
 con:=fun f g x y hs hx=>by
  grind [F1,Ko,absurd,ah4]
 spec:=fun f g u hs hu=>by
  rcases Ko hs with⟨e,e2⟩|hs
  ·subst e;subst e2;cases hu;grind [id,Kn]
  grind [Wz]
 Ln:=fun f g hs=>by
  rcases Ko hs with⟨e,e2⟩|hs
  ·subst e;have hc:Ww [(224,aal)]=true:=by kernel_rfl
   exact J5 hc (g:=aal) (by simp)
  grind [mL]
def wN(id:Nat):Code→Option Code
 |.region i ops d=>if i=id then some (.region i ops d) else none
 |.seq a b=>match wN id a with|some c=>some c|none=>wN id b
 |.cond _ a b=>match wN id a with|some c=>some c|none=>wN id b
 |.block _ a=>wN id a
 |.loop a=>wN id a
 |.scope a=>wN id a
 |.rangeFunc _ _ a b=>match wN id a with|some c=>some c|none=>wN id b
 |_=>none
noncomputable def rg(fn:Func)(i:Nat):Code:=(wN i (fn.body.getD .skip)).getD .skip
noncomputable abbrev r6(i:Nat):Code:=rg Tryz.f207 i
noncomputable abbrev r5(i:Nat):Code:=rg Tryz.f234 i
noncomputable abbrev cRF:Code:=.rangeFunc (.tmp 22) #[23] (r6 9) (.block 3 (.seq (r6 10) (r6 11)))
noncomputable abbrev cB:Code:=.seq (r6 5) (.seq (.seq (r6 6) (.cond (.tmp 19) (.exit 1) .skip)) (.seq (r6 7) (.seq (.seq (r6 8) (.block 2 cRF)) (r6 12))))
noncomputable abbrev cL:Code:=.seq (r6 4) (.seq (.cond (.tmp 14) .skip (.exit 0)) (.seq (.block 1 cB) (r6 13)))
theorem aam:Tryz.f207.body=some (.seq (r6 0) (.seq (r6 1) (.seq (r6 2) (.seq (.seq (r6 3) (.block 0 (.loop cL))) (.seq (r6 14) .ret))))):=by kernel_rfl
noncomputable abbrev cR:Code:=.seq (r5 2) (.seq (r5 3) (.cond (.tmp 22) .ret .skip))
theorem aan:Tryz.f234.body=some (.seq (r5 0) (.block 0 (.loop (.seq (.seq (r5 1) (.cond (.tmp 9) .skip (.exit 0))) (.block 1 cR))))):=by kernel_rfl
abbrev iT:K:=.int .i64
abbrev Cn:BK:=.box 201 [.own (.map bz .bool)]
abbrev XB:BK:=.box 36 [.own (.row 40 bz)]
abbrev PA:BK:=.box 27 [.val dX]
abbrev bDt:BK:=.box 40 [.val bz]
abbrev rws:List (Nat×Nat×OK):=[(3,31000,.row 36 (.sl bz)),(11,31001,.row 40 bz)]
abbrev S0:Shape:=⟨[(12,iT),(13,iT)],[(.slot 4,20000,Cn),(.slot 1,20001,PA)],rws,[]⟩
abbrev S1:Shape:=⟨[(14,.bool),(12,iT),(13,iT)],[(.slot 4,20000,Cn),(.slot 1,20001,PA)],rws,[]⟩
abbrev S2:Shape:=⟨[(19,.bool),(12,iT),(13,iT)],[(.slot 4,20000,Cn),(.slot 1,20001,PA),(.slot 6,20002,bDt)],rws,[]⟩
abbrev S3:Shape:=⟨[(12,iT),(13,iT)],[(.slot 4,20000,Cn),(.slot 7,20001,XB),(.cap 22 0,20002,bDt),(.cap 22 1,20003,PA),(.slot 1,20004,PA)],rws,[(22,234,[20002,20003])]⟩
abbrev S9:Shape:=⟨[(23,bz)],[(.slot 4,20000,Cn),(.slot 7,20001,XB)],[],[]⟩
abbrev S10:Shape:=⟨[],[(.slot 4,20000,Cn),(.slot 7,20001,XB),(.slot 8,20002,bDt)],[],[]⟩
abbrev S11:Shape:=⟨[],[(.slot 4,20000,Cn),(.slot 7,20001,XB)],[],[]⟩
abbrev S12:Shape:=⟨[(12,iT),(13,iT)],[(.slot 4,20000,Cn),(.slot 7,20001,XB),(.slot 1,20004,PA)],rws,[]⟩
abbrev SE:Shape:=⟨[],[],[(2,3000,.row 36 (.sl bz))],[]⟩
abbrev U0:Shape:=⟨[],[(.slot 1,20002,bDt),(.slot 2,20003,PA)],[],[]⟩
abbrev U1:Shape:=⟨[(5,.bool)],[(.slot 1,20002,bDt),(.slot 2,20003,PA),(.slot 4,20004,bDt)],[],[]⟩
abbrev U2:Shape:=⟨[(22,.bool),(5,.bool)],[(.slot 1,20002,bDt),(.slot 2,20003,PA),(.slot 4,20004,bDt)],[],[]⟩
noncomputable abbrev rn{R:Type}(F:FT)(n:Nat)(keep:List Nat)(c:Code)(st:St)(kk:St→Option R):Option R:=adL Tryz.prog Eqs SgF F n keep c st kk
theorem anm(F:FT)(d:ar):(rn F 36 [] (r6 0) { tmps:=[(0,cp dX d)],heap:=[] } fun st=>rn F 36 [] (r6 1) st fun st=>rn F 36 [] (r6 2) st fun st=>rn F 36 [] (r6 3) st (db S0)) =(F 223 yS ((d,()),())).bind fun(y:(((List ag)×Unit)×Unit))=>some (((((List.length y.1.1):Nat):Int),((0:Int),())),(((([]:List (ag×Bool)),()),((d,()),())),(([]:List (List ag)),y.1))):=by kernel_rfl
abbrev Tm:=List (ag×Bool)
theorem n4(F:FT)(n i:Int)(x:_):rn F 36 [] (r6 4) (aA S0 (((n,((i,()):Int×Unit)):Int×(Int×Unit)),x)) (db S1)=some ((decide (i<n),(n,(i,()))),x):=by kernel_rfl
theorem n5(F:FT)(b:Bool)(n i:Int)(m:Tm)(d:ar)(out:List (List ag))(l:List ag):(rn F 36 [] (r6 5) (aA S1 ((b,(n,(i,()))),(((m,()),((d,()),())),(out,(l,()))))) fun st=>rn F 36 [] (r6 6) st (db S2)) = cond (decide ((0:Int)≤i)&&decide (i<((l.length:Nat):Int))) ((l[Int.toNat i]?).bind fun(y:ag)=>some (((fG (.pair (.pair (.int .i64) (.int .i64)) (.int .i64)) (y.1,y.2) m).getD false,(n,(i,()))),(((m,()),((d,()),(((y.1,y.2),()),()))),(out,(l,()))))) none:=by kernel_rfl
theorem n7(F:FT)(b:Bool)(n i:Int)(m:Tm)(d:ar)(x:ag)(out:List (List ag))(l:List ag):(rn F 36 [] (r6 7) (aA S2 ((b,(n,(i,()))),(((m,()),((d,()),((x,()),()))),(out,(l,()))))) fun st=>rn F 36 [] (r6 8) st (db S3)) = some ((n,(i,())),(((m,()),((([]:List ag),()),((x,()),((d,()),((d,()),()))))),(out,(l,())))):=by kernel_rfl
theorem n9(F:FT)(y:ag)(m:Tm)(f:List ag):rn F 36 [4,7] (r6 9) (aA S9 ((y,()),(((m,()),((f,()),())),()))) (db S10)=some ((),(((m,()),((f,()),((y,()),()))),())):=by kernel_rfl
theorem n10(F:FT)(y:ag)(m:Tm)(f:List ag):(rn F 36 [4,7] (r6 10) (aA S10 ((),(((m,()),((f,()),((y,()),()))),()))) fun st=>rn F 36 [4,7] (r6 11) st (db S11)) = cond (aR f.length 1) (some ((),((((j4 (.pair (.pair (.int .i64) (.int .i64)) (.int .i64)) (y.1,y.2) true m),()),((f++[y],()),())),()))) none:=by kernel_rfl
theorem n12(F:FT)(n i:Int)(m:Tm)(f:List ag)(d:ar)(out:List (List ag))(l:List ag):rn F 36 [] (r6 12) (aA S12 ((n,(i,())),(((m,()),((f,()),((d,()),()))),(out,(l,()))))) (db S0) = cond (aR out.length 1) (some ((n,(i,())),(((m,()),((d,()),())),(out++[f],(l,()))))) none:=by kernel_rfl
theorem n13(F:FT)(n i:Int)(x:_):rn F 36 [] (r6 13) (aA S0 (((n,((i,()):Int×Unit)):Int×(Int×Unit)),x)) (db S0)=some ((n,(IntKind.wrap .i64 (i+1),())),x):=by kernel_rfl
theorem ano(F:FT)(b:Bool)(n i:Int)(m:Tm)(d:ar)(x:ag)(out:List (List ag))(l:List ag):rn F 36 [] (r6 13) (aA S2 ((b,(n,(i,()))),(((m,()),((d,()),((x,()),()))),(out,(l,()))))) (db S0)=some ((n,(IntKind.wrap .i64 (i+1),())),(((m,()),((d,()),())),(out,(l,())))):=by kernel_rfl
theorem n14(F:FT)(b:Bool)(n i:Int)(m:Tm)(d:ar)(out:List (List ag))(l:List ag):rn F 36 [] (r6 14) (aA S1 ((b,(n,(i,()))),(((m,()),((d,()),())),(out,(l,()))))) (db SE)=some ((),((),(out,()))):=by kernel_rfl
theorem u0(F:FT)(x:ag)(d:ar):rn F 23 [0] (r5 0) (aA U0 ((),(((x,()),((d,()),())),()))) (db U1)=some ((true,()),(((x,()),((d,()),((x,()),()))),())):=by kernel_rfl
theorem u2(F:FT)(b:Bool)(x y:ag)(d:ar):(rn F 23 [0] (r5 2) (aA U1 ((b,()),(((x,()),((d,()),((y,()),()))),()))) fun st=>rn F 23 [0] (r5 3) st (db U2)) =(F 235 H5 ((d,((y.1,y.2),())),())).bind fun(r:((ag×(Bool×Unit))×Unit)) =>cond (not r.1.2.1) (some ((true,(r.1.2.1,())),(((x,()),((d,()),((r.1.1,()),()))),()))) (some (((((r.1.1.1.1==x.1.1)&&(r.1.1.1.2==x.1.2))&&(r.1.1.2==x.2)),(r.1.2.1,())),(((x,()),((d,()),((r.1.1,()),()))),()))):=by kernel_rfl
end Go.Vs
namespace Go.Vs
open Go.Proofs
variable {Z Z' Z0:Nat→Prop} {ψ ψ' ψ0:Nat→Value} {h h':Hp} {w w' w0:World} {B0:Nat} {O N:Nat→Prop}
abbrev hA(m:Tm)(f:List ag):Heap:=(aA S11 ((),(((m,()),((f,()),())),()))).heap
noncomputable abbrev bd:Code:=.block 3 (.seq (r6 10) (r6 11))
noncomputable def pR(st:LoopState)(fn:FuncId)(tm:Array Value)(D:Nat):Loop:={ state:=st,pending:=none,fn:=fn,tmps:=tm,params:=#[23],assign:=r6 9,body:=bd,defers:=D }
theorem Kp{i s off:Nat}{v:Value}(hz:∀b,Z b→Z' b)(hr:aD Z ψ h w (.ref i s 0 off) v)(hi:h' i≠none→h i≠none∧ψ' i=ψ i):aD Z' ψ' h' w' (.ref i s 0 off) v:=by
 grind [aD]
structure Sl(tm:Array Value)(Z:Nat→Prop)(ψ:Nat→Value)(h:Hp)(w:World):Prop where
 n:tm.size=36
 t4:aD Z ψ h w (.ref 20000 0 0 0) (tm.getD 4 undef)
 t7:aD Z ψ h w (.ref 20001 0 0 0) (tm.getD 7 undef)
theorem Sl.of{tm:Array Value}{a:Act}{n:Nat}{T:Nat→AV}{Z'':Nat→Prop}{h'':Hp}{w'':World}{yw:Nat→Value}(s:Sl tm Z'' yw h'' w'')(t:dm Z ψ h w n T a)(e4:T 4=.ref 20000 0 0 0)(e7:T 7=.ref 20001 0 0 0)(k4:a.tmps.getD 4 undef=tm.getD 4 undef)(k7:a.tmps.getD 7 undef=tm.getD 7 undef):Sl tm Z ψ h w :=⟨s.n,by have:=t.rep 4;simp_all,by have:=t.rep 7;simp_all⟩
theorem qS{W:World}{l:Nat}{o o':Obj}(h:W.heap[l]? = some o):(W.putObj l o').heap[l]? = some o':=World.putObj_heap_same (abB.1 h).1
theorem Bp{A:Nat→Prop}{W:World}{l:Nat}{o':Obj}:Tr (·=l) Z A W Z A (W.putObj l o') :=Tr.cZ rfl rfl rfl (by simp) fun b _ hb=>World.putObj_heap_other hb
theorem pn{A:Nat→Prop}{W:World}{l:Nat}{o':Obj}(f:iX (·=l) Z A W):cG Z W (W.putObj l o'):=fun b hb=>World.putObj_heap_other fun e=>by subst e;exact(f b rfl).2.1 hb
theorem Good.putObj{W:World}{l:Nat}{o':Obj}(g:Good Z ψ h W B0 O)(f:iX (·=l) Z (Own ψ h) W):Good Z ψ h (W.putObj l o') B0 O:=by
 obtain⟨_,f2,f3⟩:=f l rfl;refine g.same (fun _ h=>h) (fun b hb=>World.putObj_heap_other fun e=>?_) (fun b hb hz=>?_) fun b hb=>by simpa using g.kO b hb
 ·simp_all
 ·obtain⟨i,h1,h2⟩:=hb;exact(g.live i b h1 h2).1 hz
structure Rnd(Z:Nat→Prop)(ψ:Nat→Value)(W:World)(B0:Nat)(O:Nat→Prop)(l:Nat)(rc:Loop)(m:Tm)(f:List ag)(y:ag)(tm:Array Value)(Z':Nat→Prop)(ψ':Nat→Value)(W':World):Prop where
 tr:Tr (·=l) Z (Own ψ (hA m f).get) W Z' (Own ψ' (hA (j4 bz y true m) (f++[y])).get) W'
 g:Good Z' ψ' (hA (j4 bz y true m) (f++[y])).get W' B0 O
 l:W'.heap[l]? = some (.loop rc)
 s:Sl tm Z' ψ' (hA (j4 bz y true m) (f++[y])).get W'
theorem XC(n:Nat){W:World}{m:Tm}{f:List ag}{y:ag}{vy:Value}{tm:Array Value}{l D:Nat}{fn:FuncId} (g:Good Z ψ (hA m f).get W B0 O) (hB0:B0≤W.heap.size) (s:Sl tm Z ψ (hA m f).get W) (hy:aD Z ψ (hA m f).get W (cp bz y) vy) (hf:f.length+1≤fH) (hl:W.heap[l]? = some (.loop (pR .ready fn tm D))) (fl:iX (·=l) Z (Own ψ (hA m f).get) W) :
  RoundIn (FW none) n Tryz.prog l fn (tm.setIfInBounds 23 vy) (r6 9) bd W fun e W'=>e=.returned (.bool true)∧∃Z' ψ',Rnd Z ψ W B0 O l (pR .ready fn tm D) m f y tm Z' ψ' W':=by
 refine roundIn_of_wpIn trivial ?_;have e4:(tm.setIfInBounds 23 vy).getD 4 undef=tm.getD 4 undef:=by simp_all
 have e7:(tm.setIfInBounds 23 vy).getD 7 undef=tm.getD 7 undef:=by simp_all
 have e23:(tm.setIfInBounds 23 vy).getD 23 undef=vy:=by simp[s.n]
 have t0:dm Z ψ (aA S9 ((y,()),(((m,()),((f,()),())),()))).heap.get W 36 (look (aA S9 ((y,()),(((m,()),((f,()),())),()))).tmps) { tmps:=tm.setIfInBounds 23 vy,defers:=[] }:=by
  refine fK (fun p hp=>?_) (by simp[s.n]) rfl;have hp:p∈[(23,cp bz y),(4,AV.ref 20000 0 0 0),(7,AV.ref 20001 0 0 0)]:=hp;simp only[List.mem_cons,List.not_mem_nil,or_false]at hp;rcases hp with rfl|rfl|rfl
  ·show aD _ _ _ _ _ ((tm.setIfInBounds 23 vy).getD 23 undef);rw[e23];exact hy
  ·show aD _ _ _ _ _ ((tm.setIfInBounds 23 vy).getD 4 undef);rw[e4];exact s.t4
  ·show aD _ _ _ _ _ ((tm.setIfInBounds 23 vy).getD 7 undef);rw[e7];exact s.t7
 refine wpIn_mono (eR sB (n9 F1 y m f) (some l) n [] (Good.start g) t0) ?_;rintro e a1 W1 ⟨rfl,a2,rfl,k1,jG,Z1,pV,adN,XD,t1⟩;obtain⟨Z2,fg,Co,t2⟩:=iB adN XD t1;have g2:=Co.Py g hB0;have tr2:Tr (·=l) Z (Own ψ (hA m f).get) W Z2 _ W1:=Co.tr;obtain⟨XE,R7⟩:=(Co.tr (L:=fun _=>False)).free fl fun _ _ h=>h;have tL:=(R7 l rfl).trans hl;refine⟨_,run_beginRound tL rfl,?_⟩;have g3:=g2.putObj (o':=.loop { pR .ready fn tm D with state:=.busy }) XE;have tr3:Tr (·=l) Z (Own ψ (hA m f).get) W Z2 _ (W1.putObj l (.loop { pR .ready fn tm D with state:=.busy })):=tr2.trans Bp;have hl3:=qS (o':=.loop { pR .ready fn tm D with state:=.busy }) tL;have t3:dm Z2 fg (aA S10 ((),(((m,()),((f,()),((y,()),()))),()))).heap.get (W1.putObj l (.loop { pR .ready fn tm D with state:=.busy })) 36 (look (aA S10 ((),(((m,()),((f,()),((y,()),()))),()))).tmps) a2 :=⟨fun d=>(t2.rep d).less (fun _ h=>h) (pn XE) (fun i hi=>⟨hi,rfl⟩),t2.size,t2.defers⟩;have fl3:iX (·=l) Z2 (Own fg (aA S10 ((),(((m,()),((f,()),((y,()),()))),()))).heap.get) (W1.putObj l (.loop { pR .ready fn tm D with state:=.busy })):=fun b hb=>by obtain⟨q1,q2,q3⟩:=XE b hb;exact⟨by simpa using q1,q2,q3⟩
 refine wpIn_block (wpIn_seq ?_);have hn:=(n10 F1 y m f).trans (ae (decide_eq_true hf) rfl);refine wpIn_mono (eR sB hn (some l) n [] (Good.start g3) t3) ?_;rintro e a3 W3 ⟨rfl,a4,rfl,k4,st4,Z4,Eb,anp,ok4,t4⟩;have hB3:B0≤(W1.putObj l (.loop { pR .ready fn tm D with state:=.busy })).heap.size:=acR hB0 tr3.size;refine wpIn_mono (eR sB anp (some l) n [] ok4 t4) ?_;rintro e a5 W5 ⟨rfl,a6,rfl,k6,st6,Z6,ψ6,adP,ok6,t6⟩;obtain⟨Z7,ψ7,ok7,t7⟩:=iB adP ok6 t6;have g7:=ok7.Py g3 hB3;obtain⟨fl7,hs7⟩:=(ok7.tr (L:=fun _=>False)).free fl3 fun _ _ h=>h;have hl7:=(hs7 l rfl).trans hl3;refine⟨_,_,run_endRound none hl7,rfl,Z7,ψ7,(tr3.trans ok7.tr).trans Bp,g7.putObj fl7,qS hl7,?_⟩;have s7:Sl tm Z7 ψ7 (hA (j4 bz y true m) (f++[y])).get W5:=s.of t7 rfl rfl ((k6 4 (by simp)).trans ((k4 4 (by simp)).trans ((k1 4 (by simp)).trans e4))) ((k6 7 (by simp)).trans ((k4 7 (by simp)).trans ((k1 7 (by simp)).trans e7)));exact⟨s7.n,s7.t4.less (fun _ h=>h) (pn fl7) (fun i hi=>⟨hi,rfl⟩),s7.t7.less (fun _ h=>h) (pn fl7) (fun i hi=>⟨hi,rfl⟩)⟩
def opsOf:Code→Array Oper
 |.region _ o _=>o
 |_=>#[]
noncomputable def Kq(i:Nat):Oper:=((opsOf (r5 1))[i]?).getD { dst:=none,op:=.move (.tmp 0),type:=0,pos:= "",after:=#[],guard:=none }
theorem adQ:r5 1=.region 1 (opsOf (r5 1)) false:=by kernel_rfl
theorem nj{o:Oper}{f:Nat→Option Bool}(h:o.guard=none):Region.wanted o f=true:=by grind [Region.wanted]
theorem XF(n:Nat){a:Act}{W:World}{l:Nat}{v8:Value}{Q:Exit→Act→World→Prop}(iY:a.tmps.size=23)(h0:a.tmps.getD 0 undef=.func (.yield l) #[] #[])(h4:(Instr.loadAt 40 (a.tmps.getD 4 undef)).run Tryz.prog W=.ok v8 W) {fn:FuncId} {tm:Array Value} {as_ bo:Code} (hy:(Instr.yield l #[v8]).run Tryz.prog W=.ok (.round l fn tm as_ bo) W) (hr:RoundIn (FW none) (n-1) Tryz.prog l fn tm as_ bo W fun e W'=>∃v,e=.returned v∧Q .normal (((a.put (some 7) (.func (.yield l) #[] #[])).put (some 8) v8).put (some 9) v) W'):(r5 1).wpIn (FW none) n Tryz.prog Q a W:=by
 rw[adQ];refine wpIn_region ?_;have hs:(opsOf (r5 1)).size=3:=by kernel_rfl
 have g0:(opsOf (r5 1))[0]? = some (Kq 0):=by kernel_rfl
 have g1:(opsOf (r5 1))[1]? = some (Kq 1):=by kernel_rfl
 have g2:(opsOf (r5 1))[2]? = some (Kq 2):=by kernel_rfl
 have p0:(Kq 0).op=.move (.tmp 0):=by kernel_rfl
 have p1:(Kq 1).op=.load 40 (.tmp 4):=by kernel_rfl
 have p2:(Kq 2).op=.call { callee:=.value (.tmp 7),args:=#[.tmp 8],argTypes:=#[40] }:=by kernel_rfl
 have d0:(Kq 0).dst=some 7:=by kernel_rfl
 have d1:(Kq 1).dst=some 8:=by kernel_rfl
 have d2:(Kq 2).dst=some 9:=by kernel_rfl
 have q0:(Kq 0).guard=none:=by kernel_rfl
 have q1:(Kq 1).guard=none:=by kernel_rfl
 have q2:(Kq 2).guard=none:=by kernel_rfl
 rw[hs,show List.range 3=[0,1,2] from rfl];simp only[wpOpsIn,g0,g1,g2];rw[if_pos (nj q0)];refine⟨fun _ _=>trivial,?_⟩;have e0:((Kq 0).semAt (FW none).round a.eval).run Tryz.prog W=.ok (.value (.func (.yield l) #[] #[])) W:=by show(execOp a.eval (Kq 0)).run _ _=_;unfold execOp;rw[p0];show Result.ok (Go.Next.value (a.tmps.getD 0 undef)) W=_;rw[h0]
 rw[e0,Oper.uponIn_value,d0];rw[if_pos (nj q1)];refine⟨fun _ _=>trivial,?_⟩;have e1:((Kq 1).semAt (FW none).round (a.put (some 7) (.func (.yield l) #[] #[])).eval).run Tryz.prog W=.ok (.value v8) W:=by
  show(execOp _ (Kq 1)).run _ _=_;unfold execOp;rw[p1];have e4:(a.put (some 7) (.func (.yield l) #[] #[])).eval (.tmp 4)=a.tmps.getD 4 undef:=dx a _ fun j hj=>by grind
  simp_all
 rw[e1,Oper.uponIn_value,d1];rw[if_pos (nj q2)];refine⟨fun _ _=>trivial,?_⟩;obtain⟨b,hb⟩:∃b,b=((a.put (some 7) (.func (.yield l) #[] #[])).put (some 8) v8):=⟨_,rfl⟩;have e7:b.eval (.tmp 7)=.func (.yield l) #[] #[]:=by rw[hb];show((a.put (some 7) (.func (.yield l) #[] #[])).put (some 8) v8).tmps.getD 7 undef=_;simp_all [dx,Act.put]
 have e8:b.eval (.tmp 8)=v8:=by rw[hb];show((a.put (some 7) (.func (.yield l) #[] #[])).put (some 8) v8).tmps.getD 8 undef=_;simp[Act.put,iY]
 have e2:((Kq 2).semAt (FW none).round b.eval).run Tryz.prog W=.ok (.round l fn tm as_ bo) W:=by
  show(execOp _ (Kq 2)).run _ _=_
  grind [execOp,Go.resolve,Kq,invoke,Deferred.ofValue]
 rw[←hb,e2,Oper.uponIn_round,d2];refine⟨fun hh=>(by cases hh),hr.mono fun e W' ⟨v,h1,h2⟩=>?_⟩;simp_all
end Go.Vs
