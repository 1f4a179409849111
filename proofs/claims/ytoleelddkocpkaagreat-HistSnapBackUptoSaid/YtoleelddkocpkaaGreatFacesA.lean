/- The walk of the function that -/
import Derived.Test.YtoleelddkocpkaaGreatPlanar
import Derived.RangeFuncLeaves
import Derived.RangeFuncCalls
import Derived.RangeFuncNested
import Derived.Shelf.Abstract
import Derived.OwnWalkIn
import Derived.TacticsInMore
import Derived.LoopNIn
import Derived.LoopIn
set_option linter.unusedSimpArgs false
set_option linter.unusedVariables false
namespace Go.Vs
open Go.Proofs
variable {P:Program} {Eqs:TypeId→Option K} {Sg:FuncId→Option aO} {F:(f:FuncId)→(g:aO)→g.A→Option g.B} {R:Type}
variable {Z Z' Z0:Nat→Prop} {ψ ψ' ψ0:Nat→Value} {h h':Hp} {w w' w0:World} {B0:Nat} {O N:Nat→Prop}
abbrev FW(r:Option Nat):Fence:={ Fence.wide with round:=r }
theorem WG{r:Option Nat}{n:Nat}{f:FuncId}{args:Array Value}{R:Ending→World→Prop}(h:Calls P f args w R):CallsIn (FW r) n P f args w R :=(callsIn_wide.2 h:CallsIn Fence.wide n P f args w R)
theorem yq{r:Option Nat}{n:Nat}{f:FuncId}{args:Array Value}{R:Ending→World→Prop}(h:CallsIn (FW r) n P f args w R):Calls P f args w R :=callsIn_wide.1 (show CallsIn Fence.wide n P f args w R from h)
def mf(ds:List Deferred)(a:Act):Act:={ a with defers:=a.defers++ds }
theorem dX(a:Act):mf [] a=a:=by cases a;simp[mf]
theorem wK(ds:List Deferred)(a:Act):(mf ds a).eval=a.eval:=funext fun x=>by rfl
theorem mH(ds:List Deferred)(a:Act)(d:Option Tmp)(v:Value):(mf ds a).put d v=mf ds (a.put d v):=by cases d<;>rfl
theorem dh(a:Act){d:Option Tmp}(v:Value){i:Nat}(h:∀j,d=some j→i≠j):(a.put d v).tmps.getD i undef=a.tmps.getD i undef:=by
 cases d with
 |none=>rfl
 |some j=>simp[Act.put,Array.getElem?_setIfInBounds_ne (Ne.symm (h j rfl))]
def agY:Op→Bool
 |.defer _=>false
 |_=>true
def PV(keep:List Nat)(ops:Array Oper):Bool:=ops.all fun o=>agY o.op&&(match o.dst with|some d => !(keep.contains d)|none=>true)
theorem Oc{keep:List Nat}{ops:Array Oper}(hk:PV keep ops=true){i:Nat}{o:Oper}(ho:ops[i]? = some o):(∀c,o.op≠.defer c)∧∀d,o.dst=some d→d∉keep:=by have:=adB.1 hk o (adH ho);simp only[Bool.and_eq_true]at this;obtain⟨h1,h2⟩:=this;refine⟨fun c hc=>(by rw[hc]at h1;cases h1),fun d hd=>?_⟩;simp_all
theorem EL{ops:Array Oper}{Q:Exit→Act→World→Prop}(r:Option Nat)(n:Nat)(ds:List Deferred){keep:List Nat}(b:Nat→Value)(hQ:∀e a w,Q e a w→e=.normal)(hk:PV keep ops=true) :
  ∀(l:List Nat) (a:Act) (w:World),wpOps P ops Q l a w→(∀d,d∈keep→a.tmps.getD d undef=b d) → wpOpsIn (FW r) n P ops (fun e a' w'=>e=.normal∧∃a0,a'=mf ds a0∧(∀d,d∈keep→a0.tmps.getD d undef=b d)∧Q .normal a0 w') l (mf ds a) w
 |[],a,w,h,hb=>⟨rfl,a,rfl,hb,h⟩
 |i::rest,a,w,h,hb=>by
  have ih:=EL r n ds b hQ hk rest;simp only[wpOps]at h;simp only[wpOpsIn]
  cases ho:ops[i]? with
  |none=>simp_all
  |some o =>
   simp only[ho]at h ⊢;obtain⟨hd,nO⟩:=Oc hk ho;have put:∀v,∀d,d∈keep→(a.put o.dst v).tmps.getD d undef=b d:=fun v d hm=>(dh a v fun j hj e=>nO j hj (e▸hm)).trans (hb d hm);have hw0:Region.wanted o (yielded ops (mf ds a).tmps)=Region.wanted o (yielded ops a.tmps):=rfl;by_cases hw:Region.wanted o (yielded ops a.tmps)=true
   ·rw[if_pos hw]at h;rw[if_pos (hw0.trans hw)];rcases h with h|⟨_,a1,w1,h1⟩
    rotate_left
    ·grind
    refine⟨fun _ _=>trivial,?_⟩;rw[Oper.semAt_eq _ _ _ hd,wK];unfold Oper.wp at h;generalize (execOp a.eval o).run P w=res at h ⊢
    cases res with
    |ok x w1 =>
     cases x with
     |value v=>show wpOpsIn _ _ _ _ _ _ _ _;rw[mH];exact ih _ _ h (put v)
     |skip=>show wpOpsIn _ _ _ _ _ _ _ _;rw[mH];exact ih _ _ h (put undef)
     | «defer» d =>
      show wpOpsIn _ _ _ _ _ _ _ _;have:=ih _ _ h (fun d' hm=>by
       have e:({ a with defers:=d::a.defers }:Act).put o.dst undef={ (a.put o.dst undef) with defers:=d::a.defers }:=by cases o.dst<;>rfl
       simp_all)
      rw[←mH]at this;exact this
     |enter f args =>
      refine⟨fun hh=>(by cases hh),WG (Calls.mono h fun e w2 he=>?_)⟩
      cases e with
      |returned v=>grind [mH]
      |panicked ch=>grind
      |outgrown=>obtain⟨a1,w1,h1⟩:=he;grind
     |row row args =>
      refine⟨fun hh=>(by cases hh),?_⟩;intro c cs _;obtain⟨v,w2,h1,h2⟩:=h c cs;refine⟨v,w2,?_,stepsIn_wide.2 h2⟩
      grind [mH]
     |_=>cases h
    |halt x w1 =>cases x<;>first|cases hQ _ _ _ h|cases h
   ·rw[if_neg hw]at h;rw[if_neg (fun k=>hw (hw0.symm.trans k)),mH];exact⟨fun _ _=>trivial,ih _ _ h (put undef)⟩
theorem Od(V:Env P Eqs Sg F){n rid:Nat}{ops:Array Oper}{st:St}{kk:St→Option R}{r:R}{a:Act}{Q:Exit→Act→World→Prop} (hx:jm P Eqs Sg F n rid ops false st kk=some r) (k:Ok Z0 w0 O ψ0 Z ψ st.heap.get w) (t:cX Z ψ st.heap.get w n (look st.tmps) a) (hQ:∀fk Z ψ a w,kk fk=some r→Ok Z0 w0 O ψ0 Z ψ fk.heap.get w→cX Z ψ fk.heap.get w n (look fk.tmps) a→Q .normal a w):wpOps P ops Q (List.range ops.size) a w:=by
 obtain⟨b,hbe,hx⟩:∃b,b=(if false=true then Region.before ops else #[])∧(if(ops.all fun o=>jl n o)&&(!false || (wS ops b&&(Cq ops b&&cg (ops.toList.filterMap (·.dst)))))&&decide (ops.size≤128) then
  bJ P Eqs Sg F rid false ops b (ops.toList.zipIdx.map fun p=>(p.2,p.1)) (mO false rid ops st) kk else none)=some r:=⟨_,rfl,hx⟩
 split at hx
 ·rename_i hc;simp only[Bool.and_eq_true,decide_eq_true_eq]at hc;obtain⟨⟨nO,hdr⟩,iY⟩:=hc;have GQ:∀(i:Nat) (o:Oper),ops[i]? = some o→jl n o=true:=fun i o ho=>adB.1 nO o (adH ho);have pk:Ok Z0 w0 O ψ0 Z ψ (oi rid st.heap).get w:=k.sub k.dE.mO fun id=>lD;have pt:cX Z ψ (oi rid st.heap).get w n (fun d=>bP rid (look st.tmps d)) a :=⟨fun d=>zp ((t.rep d).less (fun _ h=>h) (cv.refl _ _) fun i hi=>⟨lD hi,rfl⟩),t.size,t.defers⟩;have pm:vv (nN rid fun _=>False) (oi rid st.heap).get:=fun i ty cs hb=>by
   obtain⟨_,o',h1,h2⟩:=ju hb
   cases o' with
   |own ok xs=>cases h2
   |box Jz cs'=>cases h2;exact jD cs'
  have O0:look (st.tmps.map fun p=>(p.1,bP rid p.2))=fun d=>bP rid (look st.tmps d):=funext fun d=>Dd (bP rid) (by rfl) st.tmps d;rw[←GL ops]
  cases Yw:ops.any (makes ·.op) with
  |false =>
   have hp:mO false rid ops st=st:=by grind [mO]
   rw[hp]at hx;refine mC V (rid:=rid) (n:=n) (b:=_) false (fun _ i o ho=>?_) iY GQ hQ _ 0 st Z ψ a w (pM ops) hx ⟨k,t,fun d=>?_,fun i ty cs hb=>?_⟩
   ·grind
   ·exact(aL.top _).imp fun id _ h=>by cases h
   ·exact(aC.top _).imp fun id _ h=>by cases h
  |true =>
   have hp:mO false rid ops st={ tmps:=st.tmps.map fun p=>(p.1,bP rid p.2),heap:=oi rid st.heap }:=by unfold mO;rw[Yw];rfl
   rw[hp]at hx;refine mC V (rid:=rid) (n:=n) (b:=_) true (fun h=>by cases h) iY GQ hQ _ 0 _ Z ψ a w (pM ops) hx ⟨pk,by simp_all,fun d=>?_,fun i ty cs hb=>?_⟩
   ·rw[O0];exact(qX _).imp fun id h1 _ h2=>(h1 h2).elim
   ·exact(pm i ty cs hb).imp fun id h1 _ h2=>(h1 h2).elim
 ·cases hx
noncomputable def acF(P:Program)(Eqs:TypeId→Option K)(Sg:FuncId→Option aO)(F:(f:FuncId)→(g:aO)→g.A→Option g.B)(n:Nat)(keep:List Nat)(c:Code)(st:St)(kk:St→Option R):Option R :=match c with
 |.region rid ops false=>if PV keep ops=true then jm P Eqs Sg F n rid ops false st kk else none
 |_=>none
structure Aft(n:Nat)(keep:List Nat)(b:Nat→Value)(ds:List Deferred)(kk:St→Option R)(x:R)(Z0:Nat→Prop)(w0:World)(O:Nat→Prop)(ψ0:Nat→Value)(e:Exit)(a':Act)(w':World):Prop where
 e:e=.normal
 ex:∃a0,a'=mf ds a0∧(∀d,d∈keep→a0.tmps.getD d undef=b d)∧∃fk Z' ψ',kk fk=some x∧Ok Z0 w0 O ψ0 Z' ψ' fk.heap.get w'∧cX Z' ψ' fk.heap.get w' n (look fk.tmps) a0
theorem eJ(V:Env P Eqs Sg F){n:Nat}{keep:List Nat}{c:Code}{st:St}{kk:St→Option R}{x:R}(hx:acF P Eqs Sg F n keep c st kk=some x)(r:Option Nat)(m:Nat)(ds:List Deferred){a:Act} (k:Ok Z0 w0 O ψ0 Z ψ st.heap.get w) (t:cX Z ψ st.heap.get w n (look st.tmps) a):c.wpIn (FW r) m P (Aft n keep (fun d=>a.tmps.getD d undef) ds kk x Z0 w0 O ψ0) (mf ds a) w:=by
 unfold acF at hx
 split at hx
 ·rename_i rid ops
  split at hx
  ·rename_i hk;have h1:=Od V hx k t (Q:=fun e a w=>e=.normal∧∃fk Z' ψ',kk fk=some x∧Ok Z0 w0 O ψ0 Z' ψ' fk.heap.get w∧cX Z' ψ' fk.heap.get w n (look fk.tmps) a) fun fk Z' ψ' a w h1 h2 h3=>⟨rfl,fk,Z',ψ',h1,h2,h3⟩;have h2:=EL r m ds (keep:=keep) (fun d=>a.tmps.getD d undef) (fun _ _ _ h=>h.1) hk _ a w h1 fun _ _=>rfl;refine wpIn_mono (wpIn_region h2) ?_;rintro e a' w' ⟨h3,a0,h4,h5,h6⟩;exact⟨h3,a0,h4,h5,h6.2⟩
  ·cases hx
 ·cases hx
end Go.Vs
namespace Go.Vs
open Go.Proofs
variable {Z Z' Z0:Nat→Prop} {ψ ψ' ψ0 oX eY:Nat→Value} {h h' h1 h2:Hp} {w w' w0:World} {B0:Nat} {O N:Nat→Prop}
theorem Good.start(g:Good Z ψ h w B0 O):Ok Z w (Own ψ h) ψ Z ψ h w :=⟨g.Ig _,fun _ h=>h,fun _ h=>.inl h,rfl,rfl,rfl,acf _,fun _ _ _=>rfl,fun _ _ _=>rfl⟩
theorem Good.WH{B1:Nat}{O1:Nat→Prop}(g:Good Z ψ h w B0 O)(hl:∀b,Own ψ h b→B0≤b∨O b→B1≤b∨O1 b):Good Z ψ h w B1 O1 :=⟨g.box,g.row,fun i b h1 h2=>⟨(g.live i b h1 h2).1,hl b ⟨i,h1,h2⟩ (g.live i b h1 h2).2⟩,g.apart,g.kz⟩
theorem Good.same(g:Good Z ψ h w B0 O)(hz:∀b,Z b→Z' b)(hs:∀b,Z b∨Own ψ h b→w'.heap[b]? = w.heap[b]?)(hn:∀b,Own ψ h b→¬Z' b)(hl:∀b,Z' b→b<w'.heap.size):Good Z' ψ h w' B0 O:=by
 have sm:cv Z w w':=fun b hb=>hs b (.inl hb);refine⟨fun i ty cs hb=>?_,fun i ok x hb=>?_,fun i b h1 h2=>⟨hn b ⟨i,h1,h2⟩,(g.live i b h1 h2).2⟩,g.apart,hl⟩
 ·obtain⟨q,vs,e1,e2,e3,e4⟩:=g.box i ty cs hb;exact⟨q,vs,e1,(hs q (.inr ⟨i,by rw[hb];simp,by rw[e1];rfl⟩)).trans e2,e3.less hz sm fun _ hi=>⟨hi,rfl⟩,e4⟩
 ·exact(g.row i ok x hb).kept hz sm fun q hq=>hs q (.inr ⟨i,by rw[hb];simp,hq⟩)
def iq(X Z A:Nat→Prop)(w:World):Prop:=∀b,X b→b<w.heap.size∧¬Z b∧¬A b
structure Tr(L Z A:Nat→Prop)(w:World)(Z' B:Nat→Prop)(w':World):Prop where
 gG:∀b,Z b→Z' b
 fj:∀b,Z' b→Z b∨A b∨w.heap.size≤b
 own:∀b,B b→A b∨w.heap.size≤b
 os:w'.os=w.os
 tape:w'.tape=w.tape
 output:w'.output=w.output
 size:w.heap.size≤w'.heap.size
 block:∀b,b<w.heap.size→¬A b→¬L b→w'.heap[b]? = w.heap[b]?
variable {L X A B C:Nat→Prop} {Z3:Nat→Prop} {w3:World}
theorem Tr.refl:Tr L Z A w Z A w:=⟨fun _ h=>h,fun _ h=>.inl h,fun _ h=>.inl h,rfl,rfl,rfl,acf _,fun _ _ _ _=>rfl⟩
theorem Tr.trans(s:Tr L Z A w Z' B w')(t:Tr L Z' B w' Z3 C w3):Tr L Z A w Z3 C w3:=by
 have up:∀b,B b∨w'.heap.size≤b→A b∨w.heap.size≤b:=fun b hb=>hb.elim (s.own b) fun e=>.inr (acE s.size e);refine⟨fun b hb=>t.gG b (s.gG b hb),fun b hb=>?_,fun b hb=>up b (t.own b hb),t.os.trans s.os,t.tape.trans s.tape,t.output.trans s.output,acE s.size t.size,fun b h1 h2 h3=>?_⟩
 ·rcases t.fj b hb with e|e
  ·exact s.fj b e
  simp_all
 ·rw[t.block b (Nat.lt_of_lt_of_le h1 s.size) (fun e=>(s.own b e).elim h2 fun e=>by omega) h3];exact s.block b h1 h2 h3
theorem Tr.beside(t:Tr L Z A w Z' B w')(C:Nat→Prop):Tr L Z (fun b=>A b∨C b) w Z' (fun b=>B b∨C b) w' :=⟨t.gG,fun b hb=>(t.fj b hb).imp (fun h=>h) fun h=>h.imp .inl fun h=>h,fun b hb=>hb.elim (fun h=>(t.own b h).imp .inl fun h=>h) fun h=>.inl (.inr h),t.os,t.tape,t.output,t.size,fun b h1 h2 h3=>t.block b h1 (fun h=>h2 (.inl h)) h3⟩
theorem Tr.less(t:Tr L Z A w Z' B w'){A' B' L':Nat→Prop}(ha:∀b,A b→A' b)(hb:∀b,B' b→B b)(hl:∀b,L b→L' b):Tr L' Z A' w Z' B' w' :=⟨t.gG,fun b h=>(t.fj b h).imp (fun h=>h) fun h=>h.imp (ha b) fun h=>h,fun b h=>(t.own b (hb b h)).imp (ha b) fun h=>h,t.os,t.tape,t.output,t.size,fun b h1 h2 h3=>t.block b h1 (fun h=>h2 (ha b h)) fun h=>h3 (hl b h)⟩
theorem Ok.tr(k:Ok Z w (Own ψ h) ψ Z' ψ' h' w'):Tr L Z (Own ψ h) w Z' (Own ψ' h') w' :=⟨k.gG,k.fj,fun b ⟨i,h1,h2⟩=>(k.dE.live i b h1 h2).2.symm,k.os,k.tape,k.output,k.size,fun b h1 h2 _=>k.block b h1 h2⟩
theorem Ok.Oe(k:Ok Z w (Own ψ h) ψ Z' ψ' h' w')(g:Good Z ψ h w B0 O)(hB:B0≤w.heap.size):Good Z' ψ' h' w' B0 O :=k.dE.WH fun b _ hb=>hb.elim (fun e=>.inl (acE hB e)) fun⟨i,h1,h2⟩=>(g.live i b h1 h2).2
theorem Tr.cp(h1:w'.os=w.os)(h2:w'.tape=w.tape)(h3:w'.output=w.output)(h4:w.heap.size≤w'.heap.size)(h5:∀b,b<w.heap.size→¬L b→w'.heap[b]? = w.heap[b]?):Tr L Z A w Z A w' :=⟨fun _ h=>h,fun _ h=>.inl h,fun _ h=>.inl h,h1,h2,h3,h4,fun b hb _ hl=>h5 b hb hl⟩
theorem Tr.Mg(t:Tr L Z A w Z' B w')(f:iq X Z A w):iq X Z' B w':=fun b hb=>by
 obtain⟨h1,h2,h3⟩:=f b hb;refine⟨ads h1 t.size,fun hz=>?_,fun ho=>?_⟩
 ·rcases t.fj b hz with e|e|e
  ·exact h2 e
  ·exact h3 e
  ·omega
 ·rcases t.own b ho with e|e
  ·exact h3 e
  ·omega
theorem Tr.free(t:Tr L Z A w Z' B w')(f:iq X Z A w)(hl:∀b,X b→¬L b):iq X Z' B w'∧∀b,X b→w'.heap[b]? = w.heap[b]? :=⟨t.Mg f,fun b hb=>t.block b (f b hb).1 (f b hb).2.2 (hl b hb)⟩
theorem Tr.same(t:Tr L Z A w Z' B w')(hz:∀b,Z b→b<w.heap.size∧¬A b)(hl:∀b,Z b→¬L b):cv Z w w':=fun b hb=>t.block b (hz b hb).1 (hz b hb).2 (hl b hb)
theorem Good.zA(g:Good Z ψ h w B0 O):∀b,Z b→b<w.heap.size∧¬Own ψ h b:=fun b hb=>⟨g.kz b hb,fun⟨i,h1,h2⟩=>(g.live i b h1 h2).1 hb⟩
theorem Tr.part(t:Tr L Z A w Z' B w')(hz:∀b,Z b→¬A b)(g2:Good Z eY h2 w B0 O)(f:iq (Own eY h2) Z A w)(hl:∀b,Z b∨Own eY h2 b→¬L b)(zl:∀b,Z' b→b<w'.heap.size):Good Z' eY h2 w' B0 O:=by
 obtain⟨f1,f2⟩:=t.free f fun b hb=>hl b (.inr hb);refine g2.same t.gG (fun b hb=>?_) (fun b hb=>(f1 b hb).2.1) zl;rcases hb with hb|hb
 ·exact t.same (fun b hb=>⟨g2.kz b hb,hz b hb⟩) (fun b hb=>hl b (.inl hb)) b hb
 simp_all
structure Wk(Z0:Nat→Prop)(w0:World)(O:Nat→Prop)(Z:Nat→Prop)(w:World):Prop where
 gG:∀b,Z0 b→Z b
 fj:∀b,Z b→Z0 b∨O b∨w0.heap.size≤b
 os:w.os=w0.os
 tape:w.tape=w0.tape
 output:w.output=w0.output
 size:w0.heap.size≤w.heap.size
 block:∀b,b<w0.heap.size→¬O b→w.heap[b]? = w0.heap[b]?
theorem Wk.start(Z:Nat→Prop)(w:World)(O:Nat→Prop):Wk Z w O Z w:=⟨fun _ h=>h,fun _ h=>.inl h,rfl,rfl,rfl,acf _,fun _ _ _=>rfl⟩
theorem Wk.step(b:Wk Z0 w0 O Z w)(t:Tr L Z A w Z' B w')(own:∀q,A q→w0.heap.size≤q∨O q)(hl:∀b,L b→w0.heap.size≤b):Wk Z0 w0 O Z' w':=by
 refine⟨fun q hq=>t.gG q (b.gG q hq),fun q hq=>?_,t.os.trans b.os,t.tape.trans b.tape,t.output.trans b.output,acE b.size t.size,fun q hq ho=>?_⟩
 ·rcases t.fj q hq with e|e|e
  ·exact b.fj q e
  ·grind
  ·exact .inr (.inr (acE b.size e))
 ·rw[t.block q (Nat.lt_of_lt_of_le hq b.size) (fun e=>(own q e).elim (fun e=>by omega) ho) fun e=>by grind];exact b.block q hq ho
theorem Good.from(g:Good Z ψ h w B0 O):∀q,Own ψ h q→B0≤q∨O q:=fun q ⟨i,h1,h2⟩=>(g.live i q h1 h2).2
open Classical in
noncomputable def rB(h1:Hp)(oX eY:Nat→Value)(i:Nat):Value:=if h1 i=none then eY i else oX i
theorem qf{i:Nat}(h:h1 i≠none):rB h1 oX eY i=oX i:=if_neg h
theorem qg{i:Nat}(h:h1 i=none):rB h1 oX eY i=eY i:=if_pos h
theorem Good.join{a b:Heap}(g1:Good Z oX a.get w B0 O)(g2:Good Z eY b.get w B0 O)(dis:∀i,a.get i≠none→b.get i=none)(ap:∀q,Own oX a.get q→¬Own eY b.get q) (m1:∀i ty cs,a.get i=some (.box ty cs)→aC (fun j=>a.get j≠none) cs) (m2:∀i ty cs,b.get i=some (.box ty cs)→aC (fun j=>b.get j≠none) cs):Good Z (rB a.get oX eY) (a++b).get w B0 O:=by
 have get:∀i,(a++b).get i=match a.get i with|some o=>some o|none=>b.get i:=fun i=>Heap.get_append a b i
 have agZ:∀{i o},a.get i=some o→(a++b).get i=some o:=fun {i o} e=>by rw[get,e]
 have acG:∀{i},a.get i=none→(a++b).get i=b.get i:=fun {i} e=>by rw[get,e]
 have nn:∀{i},(a++b).get i≠none→(a.get i≠none∧rB a.get oX eY i=oX i)∨(a.get i=none∧b.get i≠none∧rB a.get oX eY i=eY i):=fun {i} hi=>by
  cases e:a.get i with
  |some o=>exact .inl ⟨by simp,qf (by rw[e];simp)⟩
  |none=>rw[acG e]at hi;exact .inr ⟨rfl,hi,qg e⟩
 refine⟨fun i ty cs hb=>?_,fun i ok x hb=>?_,fun i q h1 h2=>?_,fun i j q h1 h2 h3 h4=>?_,g1.kz⟩
 ·cases e:a.get i with
  |some o =>rw[agZ e]at hb;cases hb;obtain⟨q,vs,e1,e2,e3,e4⟩:=g1.box i ty cs e;exact⟨q,vs,(qf (by rw[e];simp)).trans e1,e2,e3.move (fun _ h=>h) (cv.refl _ _) (fun j hj _=>⟨hj,qf hj⟩) (m1 i ty cs e),e4⟩
  |none =>
   rw[acG e]at hb;obtain⟨q,vs,e1,e2,e3,e4⟩:=g2.box i ty cs hb;refine⟨q,vs,(qg e).trans e1,e2,e3.move (fun _ h=>h) (cv.refl _ _) (fun j hj _=>⟨hj,qg ?_⟩) (m2 i ty cs hb),e4⟩
   cases k:a.get j with
   |none=>rfl
   |some _=>exact absurd (dis j (by rw[k];simp)) hj
 ·cases e:a.get i with
  |some o=>rw[agZ e]at hb;cases hb;rw[qf (by rw[e];simp)];exact g1.row i ok x e
  |none=>rw[acG e]at hb;rw[qg e];exact g2.row i ok x hb
 ·rcases nn h1 with⟨e1,e2⟩|⟨_,e1,e2⟩<;>rw[e2]at h2
  ·exact g1.live i q e1 h2
  ·exact g2.live i q e1 h2
 ·rcases nn h1 with⟨e1,e2⟩|⟨_,e1,e2⟩<;>rcases nn h2 with⟨e3,e4⟩|⟨_,e3,e4⟩<;>rw[e2]at h3<;>rw[e4]at h4
  ·exact g1.apart i j q e1 e3 h3 h4
  ·exact absurd ⟨j,e3,h4⟩ (ap q ⟨i,e1,h3⟩)
  ·exact absurd ⟨i,e1,h3⟩ (ap q ⟨j,e3,h4⟩)
  ·exact g2.apart i j q e1 e3 h3 h4
end Go.Vs
namespace Go.Vs
open Go.Proofs Go.RowKit Go.Shelf
theorem Zk(F:Fence)(n:Nat)(h5:F.fn 224)(hro:F.round=none)(x y:Array Value)(w:World) :
  CallsIn F n Tryz.prog 224 #[.agg x,.agg y] w fun e w'=>e=.returned (.func (.func 234) #[] #[.pointer (some ⟨w.heap.size+1,0,none⟩),.pointer (some ⟨w.heap.size,0,none⟩)])∧w'=(w.alloc (.cells x 27)).alloc (.cells y 40):=by
 refine callsIn_of_wp Tryz.func224 rfl h5 ?_ hro;simp only[Tryz.ntmps224,List.size_toArray,List.length_cons,List.length_nil,Nat.reduceAdd,Nat.reduceSub,Array.replicate_succ,Array.replicate_zero,List.push_toArray,List.append_toArray,List.nil_append,List.cons_append]
 gi_wp2
 go_ret
 simp_all
def Og(h:Heap)(id:Nat):List AV→Option (Bool×bF)
 |[.agg a,.agg b]=>match dz dK a,dz bj b with
  |some d,some x=>some (true,.new (.fn 234 [.ref (id+129) 0 0 0,.ref (id+128) 0 0 0]) [(id+128,.box 27 (enc dK d)),(id+129,.box 40 (enc bj x))])
  |_,_=>none
 |_=>none
theorem tD(d:dK.T)(p:Nat→Prop):aC p (enc dK d):=by show aC p [.sl false cV d.1,.sl false dw d.2];simp[aC,aL]
theorem Mh(x:bj.T)(p:Nat→Prop):aC p (enc bj x):=by show aC p [.int .i64 x.1.1,.int .i64 x.1.2,.int .i64 x.2];simp[aC,aL]
theorem Jj:gI Tryz.prog 224 Og:=by
 intro Z ψ h w B0 O N hh id e vs us g hB bz hN bm mQ oW Bp he;unfold Og at he
 split at he
 rotate_left
 ·cases he
 rename_i a b
 split at he
 rotate_left
 ·cases he
 rename_i d x hd hx;simp only[Option.some.injEq,Prod.mk.injEq,true_and]at he;subst he;simp only[au,aA]at oW;obtain⟨_,_,rfl,⟨xs,rfl,Ax⟩,_,_,rfl,⟨ys,rfl,QQ⟩,rfl⟩:=oW;have k1:=dA hd Ax;have k2:=dA hx QQ;have n0:N (id+128):=hN 128 (by omega);have n1:N (id+129):=hN 129 (by omega);have b1:=wZ g hB (id+128) 27 n0 (gZ (h:=h) (ψ:=ψ) k1) k1.one (fun i ty cs hb=>aC.imp (p:=fun j=>¬N j) (q:=fun j=>j≠id+128) (fun j hj e=>hj (by simp_all)) (bm i ty cs hb)) (tD d _);have sz:B0≤(w.alloc (.cells xs 27)).heap.size:=by rw[World.size_alloc];omega
 have k2':=k2.mono (fun _ h=>h) (b1.same g);have b2:=wZ b1.dE sz (id+129) 40 n1 (gZ k2') k2.one (fun i ty cs hb=>by
  grind [dY,tD,aC.imp,id]) (Mh x _)
 refine(yq (Zk (FW none) 3 trivial rfl xs ys w)).mono fun en w' ⟨e1,e2⟩=>?_;subst e2;have hH:(bF.new (.fn 234 [.ref (id+129) 0 0 0,.ref (id+128) 0 0 0]) [(id+128,.box 27 (enc dK d)),(id+129,.box 40 (enc bj x))]).hp h=dY (dY h (id+128) (some (.box 27 (enc dK d)))) (id+129) (some (.box 40 (enc bj x))):=by
  funext i;show(match Heap.get _ i with|some o=>some o|none=>h i)=_;unfold dY;by_cases h1:i=id+129
  ·grind [Heap.get]
  ·by_cases h2:i=id+128
   ·grind [Heap.get]
   simp_all [Heap.get,Ne.symm]
 refine⟨_,Z,dY (dY ψ (id+128) (.pointer (some ⟨w.heap.size,0,none⟩))) (id+129) (.pointer (some ⟨(w.alloc (.cells xs 27)).heap.size,0,none⟩)),e1,?_,?_⟩
 ·rw[hH];refine⟨fun _ h=>h,fun _ h=>.inl h,⟨rfl,rfl,rfl,by grind [World.size_alloc],fun q hq _=>?_⟩,fun i hi=>?_,b2.dE⟩
  ·grind [heap_alloc_old,World.size_alloc]
  ·rcases b2.ids i hi with⟨h1,h2⟩|h1
   ·rcases b1.ids i h1 with⟨h3,h4⟩|h3
    ·simp_all
    simp_all
   simp_all
 ·rw[hH];simp only[bF.v,aA,au];refine⟨_,rfl,_,_,rfl,⟨_,rfl,fun _=>?_⟩,_,_,rfl,⟨_,rfl,fun _=>?_⟩,rfl⟩
  ·rw[bh];show(⟨w.heap.size+1,0,none⟩:Addr)=⟨(w.alloc (.cells xs 27)).heap.size,0*0+0,none⟩;simp_all
  ·rw[dB _ _ (by omega),bh];rfl
def Zl:aO:={ ps:=[],bs:=[],rs:=[],x:=some Og }
def SgF(f:FuncId):Option aO:=if f=224 then some Zl else Sg f
end Go.Vs
namespace Go.Vs
open Go.Proofs
noncomputable abbrev F0:FT:=FX YM
theorem ag1{f:FuncId}{g:aO}{x:g.A}{y:g.B}(hs:Sg f=some g)(h:F0 f g x=some y):GF Tryz.prog f g x y :=BX VI D7 mq uF (fun f g u x y _ hu _=>by cases hu) hs h
theorem hg0:HG YM:=fun _ _ _=>rfl
theorem Jk{f:FuncId}{g:aO}(h:SgF f=some g):(f=224∧g=Zl)∨Sg f=some g:=by
 unfold SgF at h
 grind
noncomputable def F1:FT:=fun f g x=>if f=224 then none else F0 f g x
theorem WI{f:FuncId}{g:aO}{x:g.A}{y:g.B}(hf:(f==224)=false)(h:F0 f g x=some y):F1 f g x=some y:=by simp_all [F1,if_neg]
theorem rC:Env Tryz.prog Eqs SgF F1 where
 eqs:=D7
 con:=fun f g x y hs hx=>by
  grind [F1,Jk,absurd,ag1]
 spec:=fun f g u hs hu=>by
  rcases Jk hs with⟨e,e2⟩|hs
  ·subst e;subst e2;cases hu;grind [id,Jj]
  grind [VI]
 Kh:=fun f g hs=>by
  rcases Jk hs with⟨e,e2⟩|hs
  ·subst e;have hc:VF [(224,Zl)]=true:=by kernel_rfl
   exact IY hc (g:=Zl) (by simp)
  grind [mq]
def vJ(id:Nat):Code→Option Code
 |.region i ops d=>if i=id then some (.region i ops d) else none
 |.seq a b=>match vJ id a with|some c=>some c|none=>vJ id b
 |.cond _ a b=>match vJ id a with|some c=>some c|none=>vJ id b
 |.block _ a=>vJ id a
 |.loop a=>vJ id a
 |.scope a=>vJ id a
 |.rangeFunc _ _ a b=>match vJ id a with|some c=>some c|none=>vJ id b
 |_=>none
noncomputable def rg(fn:Func)(i:Nat):Code:=(vJ i (fn.body.getD .skip)).getD .skip
noncomputable abbrev r6(i:Nat):Code:=rg Tryz.f207 i
noncomputable abbrev r5(i:Nat):Code:=rg Tryz.f234 i
noncomputable abbrev cRF:Code:=.rangeFunc (.tmp 22) #[23] (r6 9) (.block 3 (.seq (r6 10) (r6 11)))
noncomputable abbrev cB:Code:=.seq (r6 5) (.seq (.seq (r6 6) (.cond (.tmp 19) (.exit 1) .skip)) (.seq (r6 7) (.seq (.seq (r6 8) (.block 2 cRF)) (r6 12))))
noncomputable abbrev cL:Code:=.seq (r6 4) (.seq (.cond (.tmp 14) .skip (.exit 0)) (.seq (.block 1 cB) (r6 13)))
theorem Zm:Tryz.f207.body=some (.seq (r6 0) (.seq (r6 1) (.seq (r6 2) (.seq (.seq (r6 3) (.block 0 (.loop cL))) (.seq (r6 14) .ret))))):=by kernel_rfl
noncomputable abbrev cR:Code:=.seq (r5 2) (.seq (r5 3) (.cond (.tmp 22) .ret .skip))
theorem Zn:Tryz.f234.body=some (.seq (r5 0) (.block 0 (.loop (.seq (.seq (r5 1) (.cond (.tmp 9) .skip (.exit 0))) (.block 1 cR))))):=by kernel_rfl
abbrev iT:K:=.int .i64
abbrev Bg:BK:=.box 201 [.own (.map bj .bool)]
abbrev WJ:BK:=.box 36 [.own (.row 40 bj)]
abbrev Oh:BK:=.box 27 [.val dK]
abbrev bDt:BK:=.box 40 [.val bj]
abbrev rws:List (Nat×Nat×OK):=[(3,31000,.row 36 (.sl bj)),(11,31001,.row 40 bj)]
abbrev S0:Shape:=⟨[(12,iT),(13,iT)],[(.slot 4,20000,Bg),(.slot 1,20001,Oh)],rws,[]⟩
abbrev S1:Shape:=⟨[(14,.bool),(12,iT),(13,iT)],[(.slot 4,20000,Bg),(.slot 1,20001,Oh)],rws,[]⟩
abbrev S2:Shape:=⟨[(19,.bool),(12,iT),(13,iT)],[(.slot 4,20000,Bg),(.slot 1,20001,Oh),(.slot 6,20002,bDt)],rws,[]⟩
abbrev S3:Shape:=⟨[(12,iT),(13,iT)],[(.slot 4,20000,Bg),(.slot 7,20001,WJ),(.cap 22 0,20002,bDt),(.cap 22 1,20003,Oh),(.slot 1,20004,Oh)],rws,[(22,234,[20002,20003])]⟩
abbrev S9:Shape:=⟨[(23,bj)],[(.slot 4,20000,Bg),(.slot 7,20001,WJ)],[],[]⟩
abbrev S10:Shape:=⟨[],[(.slot 4,20000,Bg),(.slot 7,20001,WJ),(.slot 8,20002,bDt)],[],[]⟩
abbrev S11:Shape:=⟨[],[(.slot 4,20000,Bg),(.slot 7,20001,WJ)],[],[]⟩
abbrev S12:Shape:=⟨[(12,iT),(13,iT)],[(.slot 4,20000,Bg),(.slot 7,20001,WJ),(.slot 1,20004,Oh)],rws,[]⟩
abbrev SE:Shape:=⟨[],[],[(2,3000,.row 36 (.sl bj))],[]⟩
abbrev U0:Shape:=⟨[],[(.slot 1,20002,bDt),(.slot 2,20003,Oh)],[],[]⟩
abbrev U1:Shape:=⟨[(5,.bool)],[(.slot 1,20002,bDt),(.slot 2,20003,Oh),(.slot 4,20004,bDt)],[],[]⟩
abbrev U2:Shape:=⟨[(22,.bool),(5,.bool)],[(.slot 1,20002,bDt),(.slot 2,20003,Oh),(.slot 4,20004,bDt)],[],[]⟩
noncomputable abbrev rn{R:Type}(F:FT)(n:Nat)(keep:List Nat)(c:Code)(st:St)(kk:St→Option R):Option R:=acF Tryz.prog Eqs SgF F n keep c st kk
theorem amO(F:FT)(d:ak):(rn F 36 [] (r6 0) { tmps:=[(0,b6 dK d)],heap:=[] } fun st=>rn F 36 [] (r6 1) st fun st=>rn F 36 [] (r6 2) st fun st=>rn F 36 [] (r6 3) st (cO S0)) =(F 223 xC ((d,()),())).bind fun(y:(((List ab)×Unit)×Unit))=>some (((((List.length y.1.1):Nat):Int),((0:Int),())),(((([]:List (ab×Bool)),()),((d,()),())),(([]:List (List ab)),y.1))):=by kernel_rfl
abbrev Tm:=List (ab×Bool)
theorem n4(F:FT)(n i:Int)(x:_):rn F 36 [] (r6 4) (aw S0 (((n,((i,()):Int×Unit)):Int×(Int×Unit)),x)) (cO S1)=some ((decide (i<n),(n,(i,()))),x):=by kernel_rfl
theorem n5(F:FT)(b:Bool)(n i:Int)(m:Tm)(d:ak)(out:List (List ab))(l:List ab):(rn F 36 [] (r6 5) (aw S1 ((b,(n,(i,()))),(((m,()),((d,()),())),(out,(l,()))))) fun st=>rn F 36 [] (r6 6) st (cO S2)) = cond (decide ((0:Int)≤i)&&decide (i<((l.length:Nat):Int))) ((l[Int.toNat i]?).bind fun(y:ab)=>some (((fM (.pair (.pair (.int .i64) (.int .i64)) (.int .i64)) (y.1,y.2) m).getD false,(n,(i,()))),(((m,()),((d,()),(((y.1,y.2),()),()))),(out,(l,()))))) none:=by kernel_rfl
theorem n7(F:FT)(b:Bool)(n i:Int)(m:Tm)(d:ak)(x:ab)(out:List (List ab))(l:List ab):(rn F 36 [] (r6 7) (aw S2 ((b,(n,(i,()))),(((m,()),((d,()),((x,()),()))),(out,(l,()))))) fun st=>rn F 36 [] (r6 8) st (cO S3)) = some ((n,(i,())),(((m,()),((([]:List ab),()),((x,()),((d,()),((d,()),()))))),(out,(l,())))):=by kernel_rfl
theorem n9(F:FT)(y:ab)(m:Tm)(f:List ab):rn F 36 [4,7] (r6 9) (aw S9 ((y,()),(((m,()),((f,()),())),()))) (cO S10)=some ((),(((m,()),((f,()),((y,()),()))),())):=by kernel_rfl
theorem n10(F:FT)(y:ab)(m:Tm)(f:List ab):(rn F 36 [4,7] (r6 10) (aw S10 ((),(((m,()),((f,()),((y,()),()))),()))) fun st=>rn F 36 [4,7] (r6 11) st (cO S11)) = cond (aI f.length 1) (some ((),((((jN (.pair (.pair (.int .i64) (.int .i64)) (.int .i64)) (y.1,y.2) true m),()),((f++[y],()),())),()))) none:=by kernel_rfl
theorem n12(F:FT)(n i:Int)(m:Tm)(f:List ab)(d:ak)(out:List (List ab))(l:List ab):rn F 36 [] (r6 12) (aw S12 ((n,(i,())),(((m,()),((f,()),((d,()),()))),(out,(l,()))))) (cO S0) = cond (aI out.length 1) (some ((n,(i,())),(((m,()),((d,()),())),(out++[f],(l,()))))) none:=by kernel_rfl
theorem n13(F:FT)(n i:Int)(x:_):rn F 36 [] (r6 13) (aw S0 (((n,((i,()):Int×Unit)):Int×(Int×Unit)),x)) (cO S0)=some ((n,(IntKind.wrap .i64 (i+1),())),x):=by kernel_rfl
theorem amP(F:FT)(b:Bool)(n i:Int)(m:Tm)(d:ak)(x:ab)(out:List (List ab))(l:List ab):rn F 36 [] (r6 13) (aw S2 ((b,(n,(i,()))),(((m,()),((d,()),((x,()),()))),(out,(l,()))))) (cO S0)=some ((n,(IntKind.wrap .i64 (i+1),())),(((m,()),((d,()),())),(out,(l,())))):=by kernel_rfl
theorem n14(F:FT)(b:Bool)(n i:Int)(m:Tm)(d:ak)(out:List (List ab))(l:List ab):rn F 36 [] (r6 14) (aw S1 ((b,(n,(i,()))),(((m,()),((d,()),())),(out,(l,()))))) (cO SE)=some ((),((),(out,()))):=by kernel_rfl
theorem u0(F:FT)(x:ab)(d:ak):rn F 23 [0] (r5 0) (aw U0 ((),(((x,()),((d,()),())),()))) (cO U1)=some ((true,()),(((x,()),((d,()),((x,()),()))),())):=by kernel_rfl
theorem u2(F:FT)(b:Bool)(x y:ab)(d:ak):(rn F 23 [0] (r5 2) (aw U1 ((b,()),(((x,()),((d,()),((y,()),()))),()))) fun st=>rn F 23 [0] (r5 3) st (cO U2)) =(F 235 GZ ((d,((y.1,y.2),())),())).bind fun(r:((ab×(Bool×Unit))×Unit)) =>cond (not r.1.2.1) (some ((true,(r.1.2.1,())),(((x,()),((d,()),((r.1.1,()),()))),()))) (some (((((r.1.1.1.1==x.1.1)&&(r.1.1.1.2==x.1.2))&&(r.1.1.2==x.2)),(r.1.2.1,())),(((x,()),((d,()),((r.1.1,()),()))),()))):=by kernel_rfl
end Go.Vs
namespace Go.Vs
open Go.Proofs
variable {Z Z' Z0:Nat→Prop} {ψ ψ' ψ0:Nat→Value} {h h':Hp} {w w' w0:World} {B0:Nat} {O N:Nat→Prop}
abbrev hA(m:Tm)(f:List ab):Heap:=(aw S11 ((),(((m,()),((f,()),())),()))).heap
noncomputable abbrev bd:Code:=.block 3 (.seq (r6 10) (r6 11))
noncomputable def oU(st:LoopState)(fn:FuncId)(tm:Array Value)(D:Nat):Loop:={ state:=st,pending:=none,fn:=fn,tmps:=tm,params:=#[23],assign:=r6 9,body:=bd,defers:=D }
theorem Jl{i s off:Nat}{v:Value}(hz:∀b,Z b→Z' b)(hr:aA Z ψ h w (.ref i s 0 off) v)(hi:h' i≠none→h i≠none∧ψ' i=ψ i):aA Z' ψ' h' w' (.ref i s 0 off) v:=by
 grind [aA]
structure Sl(tm:Array Value)(Z:Nat→Prop)(ψ:Nat→Value)(h:Hp)(w:World):Prop where
 n:tm.size=36
 t4:aA Z ψ h w (.ref 20000 0 0 0) (tm.getD 4 undef)
 t7:aA Z ψ h w (.ref 20001 0 0 0) (tm.getD 7 undef)
theorem Sl.of{tm:Array Value}{a:Act}{n:Nat}{T:Nat→AV}{Z'':Nat→Prop}{h'':Hp}{w'':World}{xg:Nat→Value}(s:Sl tm Z'' xg h'' w'')(t:cX Z ψ h w n T a)(e4:T 4=.ref 20000 0 0 0)(e7:T 7=.ref 20001 0 0 0)(k4:a.tmps.getD 4 undef=tm.getD 4 undef)(k7:a.tmps.getD 7 undef=tm.getD 7 undef):Sl tm Z ψ h w :=⟨s.n,by have:=t.rep 4;simp_all,by have:=t.rep 7;simp_all⟩
theorem qh{W:World}{l:Nat}{o o':Obj}(h:W.heap[l]? = some o):(W.putObj l o').heap[l]? = some o':=World.putObj_heap_same (abR.1 h).1
theorem Ab{A:Nat→Prop}{W:World}{l:Nat}{o':Obj}:Tr (·=l) Z A W Z A (W.putObj l o') :=Tr.cp rfl rfl rfl (by simp) fun b _ hb=>World.putObj_heap_other hb
theorem oz{A:Nat→Prop}{W:World}{l:Nat}{o':Obj}(f:iq (·=l) Z A W):cv Z W (W.putObj l o'):=fun b hb=>World.putObj_heap_other fun e=>by subst e;exact(f b rfl).2.1 hb
theorem Good.putObj{W:World}{l:Nat}{o':Obj}(g:Good Z ψ h W B0 O)(f:iq (·=l) Z (Own ψ h) W):Good Z ψ h (W.putObj l o') B0 O:=by
 obtain⟨_,f2,f3⟩:=f l rfl;refine g.same (fun _ h=>h) (fun b hb=>World.putObj_heap_other fun e=>?_) (fun b hb hz=>?_) fun b hb=>by simpa using g.kz b hb
 ·simp_all
 ·obtain⟨i,h1,h2⟩:=hb;exact(g.live i b h1 h2).1 hz
structure Rnd(Z:Nat→Prop)(ψ:Nat→Value)(W:World)(B0:Nat)(O:Nat→Prop)(l:Nat)(rc:Loop)(m:Tm)(f:List ab)(y:ab)(tm:Array Value)(Z':Nat→Prop)(ψ':Nat→Value)(W':World):Prop where
 tr:Tr (·=l) Z (Own ψ (hA m f).get) W Z' (Own ψ' (hA (jN bj y true m) (f++[y])).get) W'
 g:Good Z' ψ' (hA (jN bj y true m) (f++[y])).get W' B0 O
 l:W'.heap[l]? = some (.loop rc)
 s:Sl tm Z' ψ' (hA (jN bj y true m) (f++[y])).get W'
theorem WK(n:Nat){W:World}{m:Tm}{f:List ab}{y:ab}{vy:Value}{tm:Array Value}{l D:Nat}{fn:FuncId} (g:Good Z ψ (hA m f).get W B0 O) (hB0:B0≤W.heap.size) (s:Sl tm Z ψ (hA m f).get W) (hy:aA Z ψ (hA m f).get W (b6 bj y) vy) (hf:f.length+1≤fB) (hl:W.heap[l]? = some (.loop (oU .ready fn tm D))) (fl:iq (·=l) Z (Own ψ (hA m f).get) W) :
  RoundIn (FW none) n Tryz.prog l fn (tm.setIfInBounds 23 vy) (r6 9) bd W fun e W'=>e=.returned (.bool true)∧∃Z' ψ',Rnd Z ψ W B0 O l (oU .ready fn tm D) m f y tm Z' ψ' W':=by
 refine roundIn_of_wpIn trivial ?_;have e4:(tm.setIfInBounds 23 vy).getD 4 undef=tm.getD 4 undef:=by simp_all
 have e7:(tm.setIfInBounds 23 vy).getD 7 undef=tm.getD 7 undef:=by simp_all
 have e23:(tm.setIfInBounds 23 vy).getD 23 undef=vy:=by simp[s.n]
 have t0:cX Z ψ (aw S9 ((y,()),(((m,()),((f,()),())),()))).heap.get W 36 (look (aw S9 ((y,()),(((m,()),((f,()),())),()))).tmps) { tmps:=tm.setIfInBounds 23 vy,defers:=[] }:=by
  refine fD (fun p hp=>?_) (by simp[s.n]) rfl;have hp:p∈[(23,b6 bj y),(4,AV.ref 20000 0 0 0),(7,AV.ref 20001 0 0 0)]:=hp;simp only[List.mem_cons,List.not_mem_nil,or_false]at hp;rcases hp with rfl|rfl|rfl
  ·show aA _ _ _ _ _ ((tm.setIfInBounds 23 vy).getD 23 undef);rw[e23];exact hy
  ·show aA _ _ _ _ _ ((tm.setIfInBounds 23 vy).getD 4 undef);rw[e4];exact s.t4
  ·show aA _ _ _ _ _ ((tm.setIfInBounds 23 vy).getD 7 undef);rw[e7];exact s.t7
 refine wpIn_mono (eJ rC (n9 F1 y m f) (some l) n [] (Good.start g) t0) ?_;rintro e a1 W1 ⟨rfl,a2,rfl,k1,jt,Z1,oX,acH,Zo,t1⟩;obtain⟨Z2,eY,Fc,t2⟩:=gW acH Zo t1;have g2:=Fc.Oe g hB0;have tr2:Tr (·=l) Z (Own ψ (hA m f).get) W Z2 _ W1:=Fc.tr;obtain⟨WL,QP⟩:=(Fc.tr (L:=fun _=>False)).free fl fun _ _ h=>h;have vU:=(QP l rfl).trans hl;refine⟨_,run_beginRound vU rfl,?_⟩;have g3:=g2.putObj (o':=.loop { oU .ready fn tm D with state:=.busy }) WL;have tr3:Tr (·=l) Z (Own ψ (hA m f).get) W Z2 _ (W1.putObj l (.loop { oU .ready fn tm D with state:=.busy })):=tr2.trans Ab;have hl3:=qh (o':=.loop { oU .ready fn tm D with state:=.busy }) vU;have t3:cX Z2 eY (aw S10 ((),(((m,()),((f,()),((y,()),()))),()))).heap.get (W1.putObj l (.loop { oU .ready fn tm D with state:=.busy })) 36 (look (aw S10 ((),(((m,()),((f,()),((y,()),()))),()))).tmps) a2 :=⟨fun d=>(t2.rep d).less (fun _ h=>h) (oz WL) (fun i hi=>⟨hi,rfl⟩),t2.size,t2.defers⟩;have fl3:iq (·=l) Z2 (Own eY (aw S10 ((),(((m,()),((f,()),((y,()),()))),()))).heap.get) (W1.putObj l (.loop { oU .ready fn tm D with state:=.busy })):=fun b hb=>by obtain⟨q1,q2,q3⟩:=WL b hb;exact⟨by simpa using q1,q2,q3⟩
 refine wpIn_block (wpIn_seq ?_);have hn:=(n10 F1 y m f).trans (ae (decide_eq_true hf) rfl);refine wpIn_mono (eJ rC hn (some l) n [] (Good.start g3) t3) ?_;rintro e a3 W3 ⟨rfl,a4,rfl,k4,st4,Z4,C0,amQ,ok4,t4⟩;have hB3:B0≤(W1.putObj l (.loop { oU .ready fn tm D with state:=.busy })).heap.size:=acE hB0 tr3.size;refine wpIn_mono (eJ rC amQ (some l) n [] ok4 t4) ?_;rintro e a5 W5 ⟨rfl,a6,rfl,k6,st6,Z6,ψ6,acJ,ok6,t6⟩;obtain⟨Z7,ψ7,ok7,t7⟩:=gW acJ ok6 t6;have g7:=ok7.Oe g3 hB3;obtain⟨fl7,hs7⟩:=(ok7.tr (L:=fun _=>False)).free fl3 fun _ _ h=>h;have hl7:=(hs7 l rfl).trans hl3;refine⟨_,_,run_endRound none hl7,rfl,Z7,ψ7,(tr3.trans ok7.tr).trans Ab,g7.putObj fl7,qh hl7,?_⟩;have s7:Sl tm Z7 ψ7 (hA (jN bj y true m) (f++[y])).get W5:=s.of t7 rfl rfl ((k6 4 (by simp)).trans ((k4 4 (by simp)).trans ((k1 4 (by simp)).trans e4))) ((k6 7 (by simp)).trans ((k4 7 (by simp)).trans ((k1 7 (by simp)).trans e7)));exact⟨s7.n,s7.t4.less (fun _ h=>h) (oz fl7) (fun i hi=>⟨hi,rfl⟩),s7.t7.less (fun _ h=>h) (oz fl7) (fun i hi=>⟨hi,rfl⟩)⟩
def opsOf:Code→Array Oper
 |.region _ o _=>o
 |_=>#[]
noncomputable def Jm(i:Nat):Oper:=((opsOf (r5 1))[i]?).getD { dst:=none,op:=.move (.tmp 0),type:=0,pos:= "",after:=#[],guard:=none }
theorem acK:r5 1=.region 1 (opsOf (r5 1)) false:=by kernel_rfl
theorem mI{o:Oper}{f:Nat→Option Bool}(h:o.guard=none):Region.wanted o f=true:=by grind [Region.wanted]
theorem WM(n:Nat){a:Act}{W:World}{l:Nat}{v8:Value}{Q:Exit→Act→World→Prop}(iY:a.tmps.size=23)(h0:a.tmps.getD 0 undef=.func (.yield l) #[] #[])(h4:(Instr.loadAt 40 (a.tmps.getD 4 undef)).run Tryz.prog W=.ok v8 W) {fn:FuncId} {tm:Array Value} {as_ bo:Code} (hy:(Instr.yield l #[v8]).run Tryz.prog W=.ok (.round l fn tm as_ bo) W) (hr:RoundIn (FW none) (n-1) Tryz.prog l fn tm as_ bo W fun e W'=>∃v,e=.returned v∧Q .normal (((a.put (some 7) (.func (.yield l) #[] #[])).put (some 8) v8).put (some 9) v) W'):(r5 1).wpIn (FW none) n Tryz.prog Q a W:=by
 rw[acK];refine wpIn_region ?_;have hs:(opsOf (r5 1)).size=3:=by kernel_rfl
 have g0:(opsOf (r5 1))[0]? = some (Jm 0):=by kernel_rfl
 have g1:(opsOf (r5 1))[1]? = some (Jm 1):=by kernel_rfl
 have g2:(opsOf (r5 1))[2]? = some (Jm 2):=by kernel_rfl
 have p0:(Jm 0).op=.move (.tmp 0):=by kernel_rfl
 have p1:(Jm 1).op=.load 40 (.tmp 4):=by kernel_rfl
 have p2:(Jm 2).op=.call { callee:=.value (.tmp 7),args:=#[.tmp 8],argTypes:=#[40] }:=by kernel_rfl
 have d0:(Jm 0).dst=some 7:=by kernel_rfl
 have d1:(Jm 1).dst=some 8:=by kernel_rfl
 have d2:(Jm 2).dst=some 9:=by kernel_rfl
 have q0:(Jm 0).guard=none:=by kernel_rfl
 have q1:(Jm 1).guard=none:=by kernel_rfl
 have q2:(Jm 2).guard=none:=by kernel_rfl
 rw[hs,show List.range 3=[0,1,2] from rfl];simp only[wpOpsIn,g0,g1,g2];rw[if_pos (mI q0)];refine⟨fun _ _=>trivial,?_⟩;have e0:((Jm 0).semAt (FW none).round a.eval).run Tryz.prog W=.ok (.value (.func (.yield l) #[] #[])) W:=by show(execOp a.eval (Jm 0)).run _ _=_;unfold execOp;rw[p0];show Result.ok (Go.Next.value (a.tmps.getD 0 undef)) W=_;rw[h0]
 rw[e0,Oper.uponIn_value,d0];rw[if_pos (mI q1)];refine⟨fun _ _=>trivial,?_⟩;have e1:((Jm 1).semAt (FW none).round (a.put (some 7) (.func (.yield l) #[] #[])).eval).run Tryz.prog W=.ok (.value v8) W:=by
  show(execOp _ (Jm 1)).run _ _=_;unfold execOp;rw[p1];have e4:(a.put (some 7) (.func (.yield l) #[] #[])).eval (.tmp 4)=a.tmps.getD 4 undef:=dh a _ fun j hj=>by grind
  simp_all
 rw[e1,Oper.uponIn_value,d1];rw[if_pos (mI q2)];refine⟨fun _ _=>trivial,?_⟩;obtain⟨b,hb⟩:∃b,b=((a.put (some 7) (.func (.yield l) #[] #[])).put (some 8) v8):=⟨_,rfl⟩;have e7:b.eval (.tmp 7)=.func (.yield l) #[] #[]:=by rw[hb];show((a.put (some 7) (.func (.yield l) #[] #[])).put (some 8) v8).tmps.getD 7 undef=_;simp_all [dh,Act.put]
 have e8:b.eval (.tmp 8)=v8:=by rw[hb];show((a.put (some 7) (.func (.yield l) #[] #[])).put (some 8) v8).tmps.getD 8 undef=_;simp[Act.put,iY]
 have e2:((Jm 2).semAt (FW none).round b.eval).run Tryz.prog W=.ok (.round l fn tm as_ bo) W:=by
  show(execOp _ (Jm 2)).run _ _=_
  grind [execOp,Go.resolve,Jm,invoke,Deferred.ofValue]
 rw[←hb,e2,Oper.uponIn_round,d2];refine⟨fun hh=>(by cases hh),hr.mono fun e W' ⟨v,h1,h2⟩=>?_⟩;simp_all
end Go.Vs
