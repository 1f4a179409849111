/- The walk of the function that -/
import Derived.Test.YtpkfpbpbkabkdaaGreatFacesA
set_option linter.unusedSimpArgs false
set_option linter.unusedVariables false
namespace Go.Vs
open Go.Proofs Go.Cy
variable {Z Z' Z0:Nat→Prop} {ψ ψ' ψ0 wq CU:Nat→Value} {h h':Hp} {w w' w0:World} {B0:Nat} {O N:Nat→Prop}
theorem MG{p:Nat→Prop}(h:∃n,p n):∃n,p n∧∀m,m<n→¬p m:=by
 obtain⟨n,hn⟩:=h
 induction n using Nat.strongRecOn with
 |_ n ih =>
  by_cases k:∃m,m<n∧p m
  ·obtain⟨m,h1,h2⟩:=k;exact ih m h1 h2
  ·exact⟨n,hn,fun m h1 h2=>k ⟨m,h1,h2⟩⟩
open Classical in
noncomputable def least(p:Nat→Prop):Nat:=if h:∃n,p n then Classical.choose (MG h) else 0
theorem FJ{p:Nat→Prop}(h:∃n,p n):p (least p)∧∀m,p m→least p≤m:=by unfold least;rw[dif_pos h];obtain⟨h1,h2⟩:=Classical.choose_spec (MG h);exact⟨h1,fun m hm=>Classical.byContradiction fun k=>h2 m (by omega) hm⟩
theorem JU{F:Fence}{n:Nat}{P:Program}{c:Code}{Q:Exit→Act→World→Prop}(I:Nat→Act→World→Prop){k:Nat}{a:Act}{w:World}(h0:I k a w) (round:∀k a w,I k a w→c.wpIn F n P (Exit.then (fun a' w'=>∃k',k'<k∧I k' a' w') Q) a w):(Code.loop c).wpIn F n P Q a w:=by
 refine wpIn_loop (fun a w=>∃k,I k a w) (fun a w=>least fun k=>I k a w) ⟨k,h0⟩ fun a w hI=>?_;obtain⟨h1,_⟩:=FJ hI;refine wpIn_mono (round _ a w h1) fun e a' w' hq=>?_
 cases e with
 |normal=>obtain⟨k',h2,h3⟩:=hq;exact⟨⟨k',h3⟩,Nat.lt_of_le_of_lt ((FJ ⟨k',h3⟩).2 k' h3) h2⟩
 |_=>exact hq
abbrev hU(x:ab)(d:ak):Heap:=(aA U0 ((),(((x,()),((d,()),())),()))).heap
abbrev hB(x:ab)(d:ak)(y:ab):Heap:=(aA U1 ((true,()),(((x,()),((d,()),((y,()),()))),()))).heap
def qU(m:Tm)(y:ab):Tm:=oO bA y true m
def tell(m:Tm)(l:List ab):Tm:=l.foldl qU m
theorem S8(m:Tm)(l:List ab)(y:ab):tell m (l++[y])=qU (tell m l) y:=by simp[tell]
structure Bt(W1:World)(Z1:Nat→Prop)(OA OB:Nat→Prop)(B0:Nat)(O:Nat→Prop)(l:Nat)(rc:Loop)(tm:Array Value)(m:Tm)(f:List ab)(x:ab)(d:ak)(y:ab)(Z:Nat→Prop)(wq CU:Nat→Value)(a:Act)(W:World):Prop where
 gA:Good Z wq (hA m f).get W B0 O
 gB:Good Z CU (hB x d y).get W B0 O
 ap:jh (Own CU (hB x d y).get) Z (Own wq (hA m f).get) W
 s:Sl tm Z wq (hA m f).get W
 hl:W.heap[l]? = some (.loop rc)
 fl:jh (·=l) Z (fun b=>Own wq (hA m f).get b∨Own CU (hB x d y).get b) W
 tr:Tr (·=l) Z1 (fun b=>OA b∨OB b) W1 Z (fun b=>Own wq (hA m f).get b∨Own CU (hB x d y).get b) W
 a0:a.tmps.getD 0 undef=.func (.yield l) #[] #[]
 b0:B0≤W.heap.size
theorem acP{W:World}{x y:ab}{d:ak}{v:Value}(g:Good Z CU (hB x d y).get W B0 O)(hr:aD Z CU (hB x d y).get W (.ref 20004 0 0 0) v):∃V,(Instr.loadAt 33 v).run Tryz.prog W=.ok V W∧∀ψ h,aD Z ψ h W (cM bA y) V:=by have hb:(hB x d y).get 20004=some (.box 33 (enc bA y)):=rfl;obtain⟨q,vs,e1,e2,e3,e4⟩:=g.box _ _ _ hb;simp only[aD]at hr;obtain⟨ad,rfl,h2⟩:=hr;have h3:=h2 (by rw[hb];simp);rw[e1]at h3;have h3:ad=⟨q,0,none⟩:=h3;subst h3;obtain⟨V,h4,h5⟩:=kU (P:=Tryz.prog) (t:=33) (a:=⟨q,0,none⟩) (x:=cM bA y) e3 (fun j u hu=>by rw[dp,Nat.zero_add];simp only[World.cell?,e2];simpa using hu) (by kernel_rfl);exact⟨V,h4,fun ψ h=>h5.move (p:=fun _=>False) (fun _ h=>h) (cW.refl _ _) (fun _ k=>k.elim) (qv _ bA y)⟩
structure Itr(W1:World)(Z1:Nat→Prop)(OA OB:Nat→Prop)(B0:Nat)(O:Nat→Prop)(l:Nat)(rc:Loop)(tm:Array Value)(m:Tm)(f:List ab)(Z:Nat→Prop)(wq:Nat→Value)(W:World):Prop where
 gA:Good Z wq (hA m f).get W B0 O
 s:Sl tm Z wq (hA m f).get W
 hl:W.heap[l]? = some (.loop rc)
 tr:Tr (·=l) Z1 (fun b=>OA b∨OB b) W1 Z (Own wq (hA m f).get) W
theorem ZJ(n:Nat){W1:World}{m:Tm}{f:List ab}{x:ab}{d:ak}{l D:Nat}{fn:FuncId}{tm:Array Value}{px pd:Value}(wf:Wf d)(hx:x∈an d.1) (gA:Good Z wq (hA m f).get W1 B0 O) (gB:Good Z CU (hU x d).get W1 B0 O) (ap:jh (Own CU (hU x d).get) Z (Own wq (hA m f).get) W1) (hB0:B0≤W1.heap.size) (s:Sl tm Z wq (hA m f).get W1) (rx:aD Z CU (hU x d).get W1 (.ref 20002 0 0 0) px) (rd:aD Z CU (hU x d).get W1 (.ref 20003 0 0 0) pd) (hl:W1.heap[l]? = some (.loop (qc .ready fn tm D))) (fl:jh (·=l) Z (fun b=>Own wq (hA m f).get b∨Own CU (hU x d).get b) W1) (hf:f.length+(bz d x).length≤gF) :
  CallsIn (FW none) n Tryz.prog 254 #[.func (.yield l) #[] #[],px,pd] W1 fun e W'=>(∃v,e=.returned v)∧∃Z' ψ',Itr W1 Z (Own wq (hA m f).get) (Own CU (hU x d).get) B0 O l (qc .ready fn tm D) tm (tell m (bz d x)) (f++bz d x) Z' ψ' W':=by
 obtain⟨r0,htr,Cs,bL,hcy⟩:=xg wf hx;refine callsIn_of_wp Tryz.func254 ZH trivial ?_ rfl;obtain⟨CV,MH⟩:∃t:Array Value,t=#[.func (.yield l) #[] #[],px,pd]++Array.replicate (Tryz.f254.ntmps-(#[.func (.yield l) #[] #[],px,pd]:Array Value).size) undef:=⟨_,rfl⟩;rw[←MH];have hs0:CV.size=23:=by rw[MH,Tryz.ntmps254];simp
 have e0:CV.getD 0 undef=.func (.yield l) #[] #[]:=by rw[MH];simp
 have e1:CV.getD 1 undef=px:=by rw[MH];simp
 have e2:CV.getD 2 undef=pd:=by rw[MH];simp
 have t0:dq Z CU (hU x d).get W1 23 (look (aA U0 ((),(((x,()),((d,()),())),()))).tmps) { tmps:=CV,defers:=[] }:=by
  refine gh (fun p hp=>?_) hs0 rfl;have hp:p∈[(1,AV.ref 20002 0 0 0),(2,AV.ref 20003 0 0 0)]:=hp;simp only[List.mem_cons,List.not_mem_nil,or_false]at hp;rcases hp with rfl|rfl
  ·show aD _ _ _ _ _ (CV.getD 1 undef);rw[e1];exact rx
  ·show aD _ _ _ _ _ (CV.getD 2 undef);rw[e2];exact rd
 have zA:∀b,Z b→¬Own wq (hA m f).get b:=fun b hb=>(gA.zA b hb).2;have zl:∀b,Z b→¬b=l:=fun b hb e=>(fl l rfl).2.1 (e▸hb);refine wpIn_seq ?_;refine wpIn_mono (fi sj (u0 F1 x d) none n [] (Good.start gB) t0) ?_;rintro e a1 W2 ⟨rfl,a2,rfl,k1,jN,Z1,qf,acL,ZI,t1⟩;obtain⟨Z2,fz,Gg,t2⟩:=iA acL ZI t1;have gB2:Good Z2 fz (hB x d x).get W2 B0 O:=Gg.O4 gB hB0;have tr2:Tr (fun _=>False) Z (Own CU (hU x d).get) W1 Z2 (Own fz (hB x d x).get) W2:=Gg.tr;have fA:jh (Own wq (hA m f).get) Z (Own CU (hU x d).get) W1:=fun b hb=>⟨gA.ck hb,fun hz=>zA b hz hb,fun h2=>(ap b h2).2.2 hb⟩;have gA2:Good Z2 wq (hA m f).get W2 B0 O:=tr2.part (fun b hb=>(gB.zA b hb).2) gA fA (fun _ _ h=>h) gB2.kT;obtain⟨fA2,_⟩:=tr2.free fA fun _ _ h=>h;have ap2:jh (Own fz (hB x d x).get) Z2 (Own wq (hA m f).get) W2:=fun b hb=>⟨gB2.ck hb,fun hz=>(gB2.zA b hz).2 hb,fun h2=>(fA2 b h2).2.2 hb⟩;have sm2:cW Z W1 W2:=tr2.same gB.zA fun _ _ h=>h;have s2:Sl tm Z2 wq (hA m f).get W2:=⟨s.n,s.t4.less Gg.g9 sm2 fun i hi=>⟨hi,rfl⟩,s.t7.less Gg.g9 sm2 fun i hi=>⟨hi,rfl⟩⟩;obtain⟨TO,zK⟩:=(tr2.beside (Own wq (hA m f).get)).free (X:=(·=l)) (fun b hb=>⟨(fl b hb).1,(fl b hb).2.1,fun h=>(fl b hb).2.2 h.symm⟩) fun _ _ h=>h;rw[eQ];refine wpIn_block ?_;have start:Bt W1 Z (Own wq (hA m f).get) (Own CU (hU x d).get) B0 O l (qc .ready fn tm D) tm m f x d x Z2 wq fz a2 W2 :=⟨gA2,gB2,ap2,s2,(zK l rfl).trans hl,fun b hb=>⟨(TO b hb).1,(TO b hb).2.1,fun h=>(TO b hb).2.2 h.symm⟩,(tr2.beside (Own wq (hA m f).get)).less (fun b h=>h.symm) (fun b h=>h.symm) (fun _ h=>h.elim),(k1 0 (by simp)).trans e0,acH hB0 tr2.size⟩;refine JU (fun k a W=>∃pre y rest Z' anr ahr b,bz d x=pre++y::rest∧k=rest.length∧Bt W1 Z (Own wq (hA m f).get) (Own CU (hU x d).get) B0 O l (qc .ready fn tm D) tm (tell m pre) (f++pre) x d y Z' anr ahr a W ∧ dq Z' ahr (hB x d y).get W 23 (look (aA U1 ((b,()),(((x,()),((d,()),((y,()),()))),()))).tmps) a) (k:=r0.length) ⟨[],x,r0,Z2,wq,fz,true,htr,rfl,by rw[List.append_nil];exact start,t2⟩ ?_;rintro k a W ⟨pre,y,rest,Z3,Uk,DN,bb,oF,rfl,bt,t3⟩;have hy:y∈an d.1:=bL y (by rw[←htr,oF];simp);have r4:aD Z3 DN (hB x d y).get W (.ref 20004 0 0 0) (a.tmps.getD 4 undef):=t3.rep 4;obtain⟨V,hV,rV⟩:=acP bt.gB r4;have hlen:(f++pre).length+1≤gF:=by rw[oF]at hf;simp at hf ⊢;omega
 have rin:=Xm (n-1) bt.gA bt.b0 bt.s (rV Uk _) hlen bt.hl (fun b hb=>⟨(bt.fl b hb).1,(bt.fl b hb).2.1,fun h=>(bt.fl b hb).2.2 (.inl h)⟩);have Gd:(Instr.yield l #[V]).run Tryz.prog W=.ok (.round l fn (tm.setIfInBounds 23 V) (r6 9) bd) W:=by have:=run_yield (P:=Tryz.prog) (args:=#[V]) bt.hl rfl;simpa[qc] using this
 refine wpIn_seq (wpIn_seq ?_);refine Xn n t3.size bt.a0 hV Gd (rin.mono ?_);rintro e W4 ⟨rfl,Z4,QD,MI⟩;refine⟨.bool true,rfl,?_⟩;obtain⟨b,hb⟩:∃b,b=((a.put (some 7) (.func (.yield l) #[] #[])).put (some 8) V).put (some 9) (.bool true):=⟨_,rfl⟩;rw[←hb];have other:∀i,i≠7→i≠8→i≠9→b.tmps.getD i undef=a.tmps.getD i undef:=fun i h7 h8 h9=>by rw[hb,cE _ _ (fun j hj=>by cases hj;exact h9),cE _ _ (fun j hj=>by cases hj;exact h8),cE _ _ (fun j hj=>by cases hj;exact h7)]
 have bsz:b.tmps.size=23:=by rw[hb,cX,cX,cX];exact t3.size
 have bdf:b.defers=[]:=by rw[hb,put_defers,put_defers,put_defers];exact t3.defers
 have b9:b.eval (.tmp 9)=.bool true:=by
  have:((a.put (some 7) (.func (.yield l) #[] #[])).put (some 8) V).tmps.size=23:=by rw[cX,cX];exact t3.size
  rw[hb];show(((a.put (some 7) (.func (.yield l) #[] #[])).put (some 8) V).put (some 9) (.bool true)).tmps.getD 9 undef=_;rw[jt (by omega),if_pos rfl]
 refine wpIn_cond_true b9 (wpIn_skip (wpIn_block (wpIn_seq ?_)));have z3l:∀q,Z3 q→¬q=l:=fun q hq e=>(bt.fl l rfl).2.1 (e▸hq);have bl:∀q,Own DN (hB x d y).get q→¬q=l:=fun q hq e=>(bt.fl l rfl).2.2 (.inr (e▸hq));have gB4:Good Z4 DN (hB x d y).get W4 B0 O:=MI.tr.part (fun q hq=>(bt.gA.zA q hq).2) bt.gB bt.ap (fun q hq=>hq.elim (z3l q) (bl q)) MI.g.kT;obtain⟨ap4,_⟩:=MI.tr.free bt.ap bl;have sm4:cW Z3 W W4:=MI.tr.same bt.gA.zA z3l;have t4:dq Z4 DN (hB x d y).get W4 23 (look (aA U1 ((bb,()),(((x,()),((d,()),((y,()),()))),()))).tmps) b:=by
  have up:∀i v,i≠7→i≠8→i≠9→look (aA U1 ((bb,()),(((x,()),((d,()),((y,()),()))),()))).tmps i=v→aD Z4 DN (hB x d y).get W4 v (b.tmps.getD i undef):=fun i v h7 h8 h9 e=>by rw[other i h7 h8 h9,←e];exact(t3.rep i).less MI.tr.g9 sm4 fun j hj=>⟨hj,rfl⟩
  refine gh (fun p hp=>?_) bsz bdf;have hp:p∈[(5,AV.bool bb),(1,AV.ref 20002 0 0 0),(2,AV.ref 20003 0 0 0),(4,AV.ref 20004 0 0 0)]:=hp;simp only[List.mem_cons,List.not_mem_nil,or_false]at hp;rcases hp with rfl|rfl|rfl|rfl
  ·exact up 5 _ (by decide) (by decide) (by decide) rfl
  ·exact up 1 _ (by decide) (by decide) (by decide) rfl
  ·exact up 2 _ (by decide) (by decide) (by decide) rfl
  ·exact up 4 _ (by decide) (by decide) (by decide) rfl
 have hB4:B0≤W4.heap.size:=acH bt.b0 MI.tr.size;have ant:F1 255 Hw ((d,((y.1,y.2),())),())=some ((ph d y,(true,())),()):=by have:=Xk rfl (ahb hg0 d y wf);rw[Mp wf hy]at this;exact this
 have hn:=(u2 F1 bb x y d).trans (aa ant rfl);have run:=fi sj hn none n [] (Good.start gB4) t4;rw[eQ]at run;refine wpIn_mono run ?_;clear run;rintro e a5 W5 ⟨rfl,a6,rfl,k6,st6,Z6,ψ6,acN,ok6,t6⟩;refine wpIn_seq ?_;refine wpIn_mono (fi sj acN none n [] ok6 t6) ?_;rintro e a7 W7 ⟨rfl,a8,rfl,k8,st8,Z8,ψ8,anu,ok8,t8⟩;obtain⟨Z9,ψ9,ok9,t9⟩:=iA anu ok8 t8;rw[eQ];have gB9:Good Z9 ψ9 (hB x d (ph d y)).get W7 B0 O:=ok9.O4 gB4 hB4;have tr9:Tr (fun _=>False) Z4 (Own DN (hB x d y).get) W4 Z9 (Own ψ9 (hB x d (ph d y)).get) W7:=ok9.tr;have fA4:jh (Own QD (hA (qU (tell m pre) y) (f++pre++[y])).get) Z4 (Own DN (hB x d y).get) W4:=fun q hq=>⟨MI.g.ck hq,fun hz=>(MI.g.zA q hz).2 hq,fun h2=>(ap4 q h2).2.2 hq⟩;have gA9:Good Z9 QD (hA (qU (tell m pre) y) (f++pre++[y])).get W7 B0 O:=tr9.part (fun q hq=>(gB4.zA q hq).2) MI.g fA4 (fun _ _ h=>h) gB9.kT;obtain⟨fA9,_⟩:=tr9.free fA4 fun _ _ h=>h;have ap9:jh (Own ψ9 (hB x d (ph d y)).get) Z9 (Own QD (hA (qU (tell m pre) y) (f++pre++[y])).get) W7:=fun q hq=>⟨gB9.ck hq,fun hz=>(gB9.zA q hz).2 hq,fun h2=>(fA9 q h2).2.2 hq⟩;have sm9:cW Z4 W4 W7:=tr9.same gB4.zA fun _ _ h=>h;have s9:Sl tm Z9 QD (hA (qU (tell m pre) y) (f++pre++[y])).get W7:=⟨MI.s.n,MI.s.t4.less ok9.g9 sm9 fun i hi=>⟨hi,rfl⟩,MI.s.t7.less ok9.g9 sm9 fun i hi=>⟨hi,rfl⟩⟩;have trB:Tr (·=l) Z1 (fun q=>Own wq (hA m f).get q∨Own CU (hU x d).get q) W1 Z1 (fun q=>Own wq (hA m f).get q∨Own CU (hU x d).get q) W1:=Tr.refl;have tr4:Tr (·=l) Z (fun q=>Own wq (hA m f).get q∨Own CU (hU x d).get q) W1 Z9 (fun q=>Own QD (hA (qU (tell m pre) y) (f++pre++[y])).get q∨Own ψ9 (hB x d (ph d y)).get q) W7 :=(bt.tr.trans (MI.tr.beside _)).trans ((tr9.beside (Own QD (hA (qU (tell m pre) y) (f++pre++[y])).get)).less (fun q h=>h.symm) (fun q h=>h.symm) (fun _ h=>h.elim));have fl4:jh (·=l) Z4 (fun q=>Own QD (hA (qU (tell m pre) y) (f++pre++[y])).get q∨Own DN (hB x d y).get q) W4:=fun q hq=>by
  have hq:q=l:=hq;subst hq;have h0:=bt.fl q rfl;refine⟨adB h0.1 MI.tr.size,fun hz=>?_,fun ho=>?_⟩
  ·rcases MI.tr.fS q hz with e|e|e
   ·exact h0.2.1 e
   ·exact h0.2.2 (.inl e)
   ·have:=h0.1;omega
  ·rcases ho with ho|ho
   ·rcases MI.tr.own q ho with e|e
    ·exact h0.2.2 (.inl e)
    ·have:=h0.1;omega
   ·exact h0.2.2 (.inr ho)
 obtain⟨fl9,hl9⟩:=(tr9.beside (Own QD (hA (qU (tell m pre) y) (f++pre++[y])).get)).free (X:=(·=l)) (fun q hq=>⟨(fl4 q hq).1,(fl4 q hq).2.1,fun h=>(fl4 q hq).2.2 h.symm⟩) fun _ _ h=>h;have a8z:a8.tmps.getD 0 undef=.func (.yield l) #[] #[]:=(k8 0 (by simp)).trans ((k6 0 (by simp)).trans ((other 0 (by decide) (by decide) (by decide)).trans bt.a0));have ahv:W7.heap[l]? = some (.loop (qc .ready fn tm D)):=(hl9 l rfl).trans MI.l;have h22:a8.eval (.tmp 22)=.bool (((((ph d y).1.1==x.1.1)&&((ph d y).1.2==x.1.2))&&((ph d y).2==x.2))):=t9.rep 22;have ahw:qU (tell m pre) y=tell m (pre++[y]):=(S8 m pre y).symm;have anz:f++pre++[y]=f++(pre++[y]):=List.append_assoc _ _ _;rw[ahw,anz]at gA9 ap9 s9 tr4 fl9;have hp:Path (ph d) (pre++y::rest) x:=by rw[←oF,htr];exact hcy
 have hpy:ph d y=rest.head?.getD x:=(Path.app.1 hp).2.1;rw[lg]at h22
 cases rest with
 |nil =>
  have e:ph d y=x:=hpy;refine wpIn_cond_true (h22.trans (congrArg Value.bool (decide_eq_true e))) (wpIn_ret ?_);have yh:(results Tryz.f254 a8.tmps).run Tryz.prog W7=.ok (.tuple #[]) W7:=by
   have hr:Tryz.f254.results=#[]:=by kernel_rfl
   exact results_none hr _ _ _
  refine⟨t9.defers,_,yh,⟨_,rfl⟩,Z9,QD,?_⟩;rw[oF];exact⟨gA9,s9,ahv,tr4.less (fun _ h=>h) (fun q h=>.inl h) fun _ h=>h⟩
 |cons y' r =>
  have e:ph d y=y':=hpy;have bp:ph d y≠x:=fun k=>by
   rw[htr]at oF;have acT:=Cs;rw[oF]at acT;have h1:x∈pre++[y]:=by
    cases pre with
    |nil=>simp at oF;simp[oF.1]
    |cons q t=>simp at oF;simp[oF.1]
   rw[show pre++y::y'::r=(pre++[y])++y'::r by simp]at acT;exact(acV.1 acT).2.2 x h1 y' abu (k.symm.trans e)
  refine wpIn_cond_false (h22.trans (congrArg Value.bool (decide_eq_false bp))) (wpIn_skip ?_);rw[e]at gB9 ap9 tr4 fl9 t9;refine⟨r.length,by simp,pre++[y],y',r,Z9,QD,ψ9,true,by rw[oF];simp,rfl,⟨gA9,gB9,ap9,s9,ahv,fun q hq=>⟨(fl9 q hq).1,(fl9 q hq).2.1,fun h=>(fl9 q hq).2.2 h.symm⟩,tr4,a8z,acH hB4 tr9.size⟩,?_⟩;refine gh (fun p hp=>?_) t9.size t9.defers;have hp:p∈[(5,AV.bool true),(1,AV.ref 20002 0 0 0),(2,AV.ref 20003 0 0 0),(4,AV.ref 20004 0 0 0)]:=hp;simp only[List.mem_cons,List.not_mem_nil,or_false]at hp;rcases hp with rfl|rfl|rfl|rfl
  ·exact t9.rep 5
  ·exact t9.rep 1
  ·exact t9.rep 2
  ·exact t9.rep 4
end Go.Vs
namespace Go.Vs
open Go.Proofs Go.Cy
variable {Z Z' Z0:Nat→Prop} {ψ ψ' ψ0 wq CU:Nat→Value} {h h':Hp} {w w' w0:World} {B0:Nat} {O N:Nat→Prop}
abbrev Gh:Nat→Prop:=fun _=>False
def Yn(D:Nat):Deferred:={ target:=.collected D,args:=#[] }
structure MsX(Z0:Nat→Prop)(w0:World)(Ds:List Nat)(sh:Shape)(x:sh.T)(a:Act)(W:World)(a0:Act)(Z:Nat→Prop)(ψ:Nat→Value):Prop where
 e:a=mK (Ds.map Yn) a0
 wk:Wk Z0 w0 Gh Z W
 g:Good Z ψ (aA sh x).heap.get W w0.heap.size Gh
 t:dq Z ψ (aA sh x).heap.get W 36 (look (aA sh x).tmps) a0
 nd:Ds.Nodup
 m:∀D,D∈Ds→W.heap[D]? = some (.deferred (some []))∧w0.heap.size≤D
 fr:jh (·∈Ds) Z (Own ψ (aA sh x).heap.get) W
def Ms(Z0:Nat→Prop)(w0:World)(Ds:List Nat)(sh:Shape)(x:sh.T)(a:Act)(W:World):Prop:=∃a0 Z ψ,MsX Z0 w0 Ds sh x a W a0 Z ψ
variable {Ds:List Nat} {sh sh':Shape} {x:sh.T} {x':sh'.T} {a:Act} {W:World}
theorem JV{c:Code}{R:Type}{kk:St→Option R}{y:R}(hx:rn F1 36 [] c (aA sh x) kk=some y)(n:Nat){a0:Act}(s:MsX Z0 w0 Ds sh x a W a0 Z ψ) :
  c.wpIn (FW none) n Tryz.prog (Aft 36 [] (fun d=>a0.tmps.getD d undef) (Ds.map Yn) kk y Z W (Own ψ (aA sh x).heap.get) ψ) a W:=by
 rw[s.e];exact fi sj hx none n _ (Good.start s.g) s.t
theorem O7{st:St}{a1:Act}{W':World}(s:MsX Z0 w0 Ds sh x a W a1 Z ψ)(xH:dh sh' st=some x'){ψ':Nat→Value}{Z':Nat→Prop}{a2:Act}(ok:Ok Z W (Own ψ (aA sh x).heap.get) ψ Z' ψ' st.heap.get W')(t:dq Z' ψ' st.heap.get W' 36 (look st.tmps) a2):Ms Z0 w0 Ds sh' x' (mK (Ds.map Yn) a2) W':=by obtain⟨Z2,fz,Gg,t2⟩:=iA xH ok t;obtain⟨f1,f2⟩:=(Gg.tr (L:=Gh)).free s.fr fun _ _ h=>h;exact⟨a2,Z2,fz,rfl,s.wk.step (Gg.tr (L:=Gh)) s.g.from (fun _ h=>h.elim),Gg.O4 s.g s.wk.size,t2,s.nd,fun D hD=>⟨(f2 D hD).trans (s.m D hD).1,(s.m D hD).2⟩,f1⟩
theorem FK{c:Code}(hx:rn F1 36 [] c (aA sh x) (dh sh')=some x')(n:Nat)(s:Ms Z0 w0 Ds sh x a W):c.wpIn (FW none) n Tryz.prog (fun e a' W'=>e=.normal∧Ms Z0 w0 Ds sh' x' a' W') a W:=by obtain⟨a0,Z,ψ,s⟩:=s;refine wpIn_mono (JV hx n s) ?_;rintro e a1 W1 ⟨rfl,a2,rfl,_,st,Z1,qf,xH,ok,t⟩;exact⟨rfl,O7 s xH ok t⟩
theorem QE{c c':Code}(hx:(rn F1 36 [] c (aA sh x) fun st=>rn F1 36 [] c' st (dh sh'))=some x')(n:Nat)(s:Ms Z0 w0 Ds sh x a W) :
  c.wpIn (FW none) n Tryz.prog (fun e a' W'=>e=.normal∧c'.wpIn (FW none) n Tryz.prog (fun e a' W'=>e=.normal∧Ms Z0 w0 Ds sh' x' a' W') a' W') a W:=by
 obtain⟨a0,Z,ψ,s⟩:=s;refine wpIn_mono (JV hx n s) ?_;rintro e a1 W1 ⟨rfl,a2,rfl,_,st,Z1,qf,xH,ok,t⟩;refine⟨rfl,wpIn_mono (fi sj xH none n _ ok t) ?_⟩;rintro e a3 W3 ⟨rfl,a4,rfl,_,st3,Z3,Uk,acU,ZK,t3⟩;exact⟨rfl,O7 s acU ZK t3⟩
abbrev hC(d:ak)(out:List (List ab))(l:List ab):Heap:=[(20004,.box 41 (enc eV d))]++tg rws ((out,(l,())):Nn (rws.map (·.2.2)))
theorem CW{i:Nat}{v:Value}(hr:aD Z ψ h w (.bY i) v)(hi:h' i≠none→h i≠none∧ψ' i=ψ i):aD Z' ψ' h' w' (.bY i) v:=by simp only[aD]at hr ⊢;exact⟨hr.1,fun k=>by obtain⟨k1,k2⟩:=hi k;rw[k2];exact hr.2 k1⟩
theorem FL{m:Tm}{f:List ab}{i:Nat}(h:(hA m f).get i≠none):i=20000∨i=9000∨i=20001∨i=9016:=by
 have e:hA m f=[(20000,.box 224 [.bY 9000]),(9000,.own (.map bA .bool) m),(20001,.box 50 [.bY 9016]),(9016,.own (.row 33 bA) f)]:=rfl;rw[e]at h;simp only[Heap.get]at h;by_cases h1:20000=i
 ·exact .inl h1.symm
 by_cases h2:9000=i
 ·exact .inr (.inl h2.symm)
 by_cases h3:20001=i
 ·exact .inr (.inr (.inl h3.symm))
 by_cases h4:9016=i
 ·exact .inr (.inr (.inr h4.symm))
 rw[if_neg h1,if_neg h2,if_neg h3,if_neg h4]at h;exact absurd rfl h
theorem JW{x:ab}{d:ak}{i:Nat}(h:(hU x d).get i≠none):i=20002∨i=20003:=by
 have e:hU x d=[(20002,.box 33 (enc bA x)),(20003,.box 41 (enc eV d))]:=rfl;rw[e]at h;simp only[Heap.get]at h;by_cases h1:20002=i
 ·exact .inl h1.symm
 by_cases h2:20003=i
 ·exact .inr h2.symm
 rw[if_neg h1,if_neg h2]at h;exact absurd rfl h
theorem FM{d:ak}{out:List (List ab)}{l:List ab}{i:Nat}(h:(hC d out l).get i≠none):i=20004∨i=31000∨i=31001:=by
 have e:hC d out l=[(20004,.box 41 (enc eV d)),(31000,.own (.row 50 (.sl bA)) out),(31001,.own (.row 33 bA) l)]:=rfl;rw[e]at h;simp only[Heap.get]at h;by_cases h1:20004=i
 ·exact .inl h1.symm
 by_cases h2:31000=i
 ·exact .inr (.inl h2.symm)
 by_cases h3:31001=i
 ·exact .inr (.inr h3.symm)
 rw[if_neg h1,if_neg h2,if_neg h3]at h;exact absurd rfl h
theorem AP{a b:Heap}{i:Nat}{o:Ob}(h:a.get i=some o):(a++b).get i=some o:=by rw[Heap.get_append,h]
theorem vl{a b:Heap}{i:Nat}(h:a.get i=none):(a++b).get i=b.get i:=by rw[Heap.get_append,h]
theorem JX{h:Hp}{i:Nat}(k:h i≠none→False):h i=none:=by
 cases e:h i with
 |none=>rfl
 |some _=>exact(k (by rw[e];simp)).elim
theorem FN{a b c:Heap}(g:Good Z ψ c.get w B0 O)(sa:∀i o,a.get i=some o→c.get i=some o)(sb:∀i o,b.get i=some o→c.get i=some o)(dis:∀i,a.get i≠none→b.get i≠none→False):jh (Own ψ b.get) Z (Own ψ a.get) w:=by
 have up:∀{e:Heap} (se:∀i o,e.get i=some o→c.get i=some o) {i},e.get i≠none→c.get i≠none:=fun {e} se {i} hi=>by obtain⟨o,ho⟩:=abT.1 hi;rw[se i o ho];simp
 rintro q ⟨i,h1,h2⟩;refine⟨g.ck ⟨i,up sb h1,h2⟩,(g.live i q (up sb h1) h2).1,?_⟩;rintro⟨j,h3,h4⟩;have e:=g.apart i j q (up sb h1) (up sa h3) h2 h4;subst e;exact dis i h3 h1
end Go.Vs
namespace Go.Vs
open Go.Proofs Go.Cy
variable {Z Z' Z0:Nat→Prop} {ψ ψ' ψ0 wq CU:Nat→Value} {h h':Hp} {w w' w0:World} {B0:Nat} {O N:Nat→Prop}
variable {Ds:List Nat} {a:Act} {W:World}
abbrev x3(n i:Int)(m:Tm)(f:List ab)(x:ab)(d:ak)(out:List (List ab))(l:List ab):S3.T:=((n,(i,())),(((m,()),((f,()),((x,()),((d,()),((d,()),()))))),(out,(l,()))))
abbrev x12(n i:Int)(m:Tm)(f:List ab)(d:ak)(out:List (List ab))(l:List ab):S12.T:=((n,(i,())),(((m,()),((f,()),((d,()),()))),(out,(l,()))))
set_option maxRecDepth 20000 in
theorem Xo(k:Nat){n i:Int}{m:Tm}{x:ab}{d:ak}{out:List (List ab)}{l:List ab}(wf:Wf d)(hx:x∈an d.1)(s:Ms Z0 w0 Ds S3 (x3 n i m [] x d out l) a W) :
  cRF.wpIn (FW none) k Tryz.prog (fun e a' W'=>e=.normal∧Ms Z0 w0 (W.heap.size::Ds) S12 (x12 n i (tell m (bz d x)) (bz d x) d out l) a' W') a W:=by
 obtain⟨a0,Z,ψ,s⟩:=s;have hH:(aA S3 (x3 n i m [] x d out l)).heap=hA m []++(hU x d++hC d out l):=rfl;have hg:=s.g;have Aa:=s.fr;have ht:=s.t;rw[hH]at hg Aa ht;have sA:∀j o,(hA m []).get j=some o→(hA m []++(hU x d++hC d out l)).get j=some o:=fun j o e=>AP e;have nA:∀{j},j=20002∨j=20003∨j=20004∨j=31000∨j=31001→∀m f,(hA m f).get j=none:=fun {j} hj m f=>JX fun e=>by have:=FL e;omega
 have nU:∀{j},j=20004∨j=31000∨j=31001→(hU x d).get j=none:=fun {j} hj=>JX fun e=>by have:=JW e;omega
 have sU:∀j o,(hU x d).get j=some o→(hA m []++(hU x d++hC d out l)).get j=some o:=fun j o e=>by have:=JW (show(hU x d).get j≠none by rw[e];simp);rw[vl (nA (by omega) m []),AP e]
 have sC:∀j o,(hC d out l).get j=some o→(hA m []++(hU x d++hC d out l)).get j=some o:=fun j o e=>by have:=FM (show(hC d out l).get j≠none by rw[e];simp);rw[vl (nA (by omega) m []),vl (nU (by omega)),e]
 have gA:=hg.sub sA;have gU:=hg.sub sU;have gC:=hg.sub sC;have fUA:jh (Own ψ (hU x d).get) Z (Own ψ (hA m []).get) W:=FN hg sA sU fun j h1 h2=>by have:=FL h1;have:=JW h2;omega
 have fCA:jh (Own ψ (hC d out l).get) Z (Own ψ (hA m []).get) W:=FN hg sA sC fun j h1 h2=>by have:=FL h1;have:=FM h2;omega
 have fCU:jh (Own ψ (hC d out l).get) Z (Own ψ (hU x d).get) W:=FN hg sU sC fun j h1 h2=>by have:=JW h1;have:=FM h2;omega
 have h22:=ht.rep 22;have e22:look (aA S3 (x3 n i m [] x d out l)).tmps 22=.fn 254 [.ref 20002 0 0 0,.ref 20003 0 0 0]:=rfl;rw[e22]at h22;simp only[aD,ax]at h22;obtain⟨ws,hv,px,_,Um,rx,pd,_,rfl,rd,rfl⟩:=h22;have Um:ws=#[px,pd]:=Array.ext' Um;subst Um;have less:∀{hp:Heap} {v:AV} {u:Value},(∀j o,hp.get j=some o→(hA m []++(hU x d++hC d out l)).get j=some o)→aD Z ψ (hA m []++(hU x d++hC d out l)).get W v u→aD Z ψ hp.get W v u:=fun {hp v u} hs hr=>hr.sL hs;have rx:aD Z ψ (hU x d).get W (.ref 20002 0 0 0) px:=less sU (by simp only[aD];exact rx);have rd:aD Z ψ (hU x d).get W (.ref 20003 0 0 0) pd:=less sU (by simp only[aD];exact rd);have sl:Sl a0.tmps Z ψ (hA m []).get W:=⟨ht.size,less sA (ht.rep 4),less sA (ht.rep 7)⟩;rw[s.e];refine wpIn_rangeFunc ?_;intro fn _;obtain⟨D,hD⟩:∃D,D=W.heap.size:=⟨_,rfl⟩;obtain⟨W1,w6⟩:∃W1,W1=(W.alloc (.deferred (some []))).alloc (.loop (qc .ready fn a0.tmps D)):=⟨_,rfl⟩;have j8:W1.heap.size=D+2:=by rw[w6,hD];simp
 have dv:∀b,b<W.heap.size→W1.heap[b]? = W.heap[b]? := fun b hb=>by rw[w6,heap_alloc_old _ _ (by rw[World.size_alloc];omega),heap_alloc_old _ _ hb]
 have hL1:W1.heap[D+1]? = some (.loop (qc .ready fn a0.tmps D)):=by have:=World.alloc_heap_new (W.alloc (.deferred (some []))) (.loop (qc .ready fn a0.tmps D));rw[World.size_alloc,←w6,←hD]at this;exact this
 have hD1:W1.heap[D]? = some (.deferred (some [])):=by rw[w6,hD,heap_alloc_old _ _ (by rw[World.size_alloc];omega)];exact World.alloc_heap_new W _
 have lift:∀{hp:Heap} {ψ:Nat→Value},Good Z ψ hp.get W w0.heap.size Gh→Good Z ψ hp.get W1 w0.heap.size Gh:=fun {hp ψ} g=>g.same (fun _ h=>h) (fun b hb=>dv b (hb.elim (g.kT b) g.ck)) (fun b hb hz=>(g.zA b hz).2 hb) fun b hb=>by have:=g.kT b hb;omega
 have sm1:cW Z W W1:=fun b hb=>dv b (hg.kT b hb);have gA1:=lift gA;have gU1:=lift gU;have gC1:=lift gC;have up:∀{X A:Nat→Prop},jh X Z A W→jh X Z A W1:=fun {X A} f b hb=>⟨by have:=(f b hb).1;omega,(f b hb).2⟩;have sl1:Sl a0.tmps Z ψ (hA m []).get W1:=⟨sl.n,sl.t4.less (fun _ h=>h) sm1 fun j hj=>⟨hj,rfl⟩,sl.t7.less (fun _ h=>h) sm1 fun j hj=>⟨hj,rfl⟩⟩;have fresh:∀{hp:Heap} {b:Nat},Good Z ψ hp.get W w0.heap.size Gh→W.heap.size≤b→¬Z b∧¬Own ψ hp.get b:=fun {hp b} g hb=>⟨fun hz=>by have:=g.kT b hz;omega,fun ho=>by have:=g.ck ho;omega⟩;have fl0:∀b,D≤b→b<D+2→b<W1.heap.size∧¬Z b∧¬(Own ψ (hA m []).get b∨Own ψ (hU x d).get b):=fun b h1 h2 =>⟨by omega,(fresh gA (by omega)).1,fun h=>h.elim (fresh gA (by omega)).2 (fresh gU (by omega)).2⟩;have fl1:jh (·=D+1) Z (fun b=>Own ψ (hA m []).get b∨Own ψ (hU x d).get b) W1:=fun b hb=>fl0 b (by omega) (by omega);have hlen:([]:List ab).length+(bz d x).length≤gF:=by have:=HH d x;unfold gF;simp;omega
 have it:=ZJ (k-1) wf hx gA1 gU1 (up fUA) (by rw[j8,hD];have:=s.wk.size;omega) sl1 (rx.less (fun _ h=>h) sm1 fun j hj=>⟨hj,rfl⟩) (rd.less (fun _ h=>h) sm1 fun j hj=>⟨hj,rfl⟩) hL1 fl1 hlen;refine⟨D+1,[Yn D],W1,{ target:=.fn (.func 254) #[px,pd],args:=#[.func (.yield (D+1)) #[] #[]] },W1,254,#[.func (.yield (D+1)) #[] #[],px,pd],W1,?_,?_,fun _ _=>trivial,?_,fun h=>(by cases h),?_⟩
 ·rw[w6,hD];exact run_enterLoop_outer _ _ _ _ _
 ·rw[xj];have Du:a0.eval (.tmp 22)=.func (.func 254) #[] #[px,pd]:=hv;simp only[Go.resolve,Du];simp[go_sem]
 ·show(callFunc 254 (#[.func (.yield (D+1)) #[] #[]]++#[px,pd])).run _ _=_;have hc:Oh [(254,S7)]=true:=by kernel_rfl
  exact kl (CI hc (g:=S7) (f:=254) (by simp)) _
 refine it.mono ?_;rintro e W2 ⟨⟨v,rfl⟩,Z2,fz,Ta⟩;refine⟨none,_,run_endLoop Ta.hl (by simp[qc]),rfl,?_⟩;have tA:∀{X},jh X Z (fun b=>Own ψ (hA m []).get b∨Own ψ (hU x d).get b) W1→jh X Z2 (Own fz (hA (tell m (bz d x)) ([]++bz d x)).get) W2:=fun {X} f=>Ta.tr.ME f;rw[List.nil_append]at Ta;have fC1:jh (Own ψ (hC d out l).get) Z (fun b=>Own ψ (hA m []).get b∨Own ψ (hU x d).get b) W1:=fun b hb=>⟨(up fCA b hb).1,(up fCA b hb).2.1,fun h=>h.elim (fCA b hb).2.2 (fCU b hb).2.2⟩;have cD:∀b,Own ψ (hC d out l).get b→b<D:=fun b hb=>by rw[hD];exact gC.ck hb
 have zD:∀b,Z b→b<D:=fun b hb=>by rw[hD];exact hg.kT b hb
 have gA2:=Ta.gA;have gC2:Good Z2 ψ (hC d out l).get W2 w0.heap.size Gh:=Ta.tr.part (fun b hb h=>h.elim (gA.zA b hb).2 (gU.zA b hb).2) gC1 fC1 (fun b hb e=>by rcases hb with hb|hb;have:=zD b hb;omega;have:=cD b hb;omega) gA2.kT;have apC:jh (Own ψ (hC d out l).get) Z2 (Own fz (hA (tell m (bz d x)) (bz d x)).get) W2:=Ta.tr.ME fC1;have TO:jh (·=D+1) Z2 (Own fz (hA (tell m (bz d x)) (bz d x)).get) W2:=Ta.tr.ME fl1;have flC:jh (·=D+1) Z2 (Own ψ (hC d out l).get) W2:=fun b hb=>⟨(TO b hb).1,(TO b hb).2.1,fun h=>by have:=cD b h;have hb:b=D+1:=hb;omega⟩;have gA3:=gA2.putObj (o':=.loop { qc .ready fn a0.tmps D with state:=.exhausted }) TO;have gC3:=gC2.putObj (o':=.loop { qc .ready fn a0.tmps D with state:=.exhausted }) flC;obtain⟨W3,hW3⟩:∃W3,W3=W2.putObj (D+1) (.loop { qc .ready fn a0.tmps D with state:=.exhausted }):=⟨_,rfl⟩;rw[←hW3]at gA3 gC3 ⊢;have sm3:cW Z2 W2 W3:=by rw[hW3];exact pw TO
 have ahx:W3.heap.size=W2.heap.size:=by rw[hW3];simp
 have dis:∀j,(hA (tell m (bz d x)) (bz d x)).get j≠none→(hC d out l).get j=none:=fun j hj=>JX fun e=>by have:=FL hj;have:=FM e;omega
 have apJ:∀q,Own fz (hA (tell m (bz d x)) (bz d x)).get q→¬Own ψ (hC d out l).get q:=fun q h1 h2=>(apC q h2).2.2 h1;have gJ:=gA3.join gC3 dis apJ (fun j ty cs hj=>by
  have e:=FL (show(hA (tell m (bz d x)) (bz d x)).get j≠none by rw[hj];simp);rcases e with rfl|rfl|rfl|rfl
  ·cases hj
   show aJ _ [.bY 9000];simp only[aJ,aS];exact⟨fun k=>(by cases k),trivial⟩
  ·cases hj
  ·cases hj
   show aJ _ [.bY 9016];simp only[aJ,aS];exact⟨fun k=>(by cases k),trivial⟩
  ·cases hj) (fun j ty cs hj=>by
  have e:=FM (show(hC d out l).get j≠none by rw[hj];simp);rcases e with rfl|rfl|rfl
  ·cases hj;exact uk d _
  ·cases hj
  ·cases hj)
 have anE:∀b,Own (si (hA (tell m (bz d x)) (bz d x)).get fz ψ) (hA (tell m (bz d x)) (bz d x)++hC d out l).get b→Own fz (hA (tell m (bz d x)) (bz d x)).get b∨Own ψ (hC d out l).get b:=fun b ⟨j,h1,h2⟩=>by
  by_cases e:(hA (tell m (bz d x)) (bz d x)).get j=none
  ·rw[vl e]at h1;rw[qS e]at h2;exact .inr ⟨j,h1,h2⟩
  ·rw[qR e]at h2;exact .inl ⟨j,e,h2⟩
 refine⟨a0,Z2,si (hA (tell m (bz d x)) (bz d x)).get fz ψ,?_,?_,?_,?_,?_,?_,?_⟩
 ·show({ mK (Ds.map Yn) a0 with defers:=[Yn D]++(mK (Ds.map Yn) a0).defers }:Act)=mK ((W.heap.size::Ds).map Yn) a0;unfold mK;rw[ht.defers,←hD];rfl
 ·have o1:∀q,(Own ψ (hA m []).get q∨Own ψ (hU x d).get q)→w0.heap.size≤q∨Gh q:=fun q h=>h.elim (gA.from q) (gU.from q);have w1:Wk Z0 w0 Gh Z W1:=s.wk.step (A:=fun q=>Own ψ (hA m []).get q∨Own ψ (hU x d).get q) (B:=fun q=>Own ψ (hA m []).get q∨Own ψ (hU x d).get q) (L:=Gh) (Tr.bG (by rw[w6];rfl) (by rw[w6];rfl) (by rw[w6];rfl) (by rw[j8,hD];omega) fun b hb _=>dv b hb) o1 fun _ h=>h.elim;have hDl:∀b,b=D+1→w0.heap.size≤b:=fun b hb=>by have:=s.wk.size;omega
  have w2:=w1.step Ta.tr o1 hDl;rw[hW3];exact w2.step AO gA2.from hDl
 ·exact gJ
 ·have q1:∀{j},(j=20000∨j=20001)→(hA (tell m (bz d x)) (bz d x)).get j≠none:=fun {j} hj=>by rcases hj with rfl|rfl<;>(intro k;cases k)
  have rA:∀{j u},(j=20000∨j=20001)→aD Z2 fz (hA (tell m (bz d x)) (bz d x)).get W2 (.ref j 0 0 0) u→aD Z2 (si (hA (tell m (bz d x)) (bz d x)).get fz ψ) (hA (tell m (bz d x)) (bz d x)++hC d out l).get W3 (.ref j 0 0 0) u:=fun {j u} hj hr =>JR (fun _ h=>h) hr fun _=>⟨q1 hj,qR (q1 hj)⟩;have cN:∀{j},(j=20004∨j=31000∨j=31001)→(hA m []++(hU x d++hC d out l)).get j≠none∧si (hA (tell m (bz d x)) (bz d x)).get fz ψ j=ψ j:=fun {j} hj=>by
   have e1:(hC d out l).get j≠none:=by rcases hj with rfl|rfl|rfl<;>(intro k;cases k)
   obtain⟨o,ho⟩:=abT.1 e1;exact⟨by rw[sC _ _ ho];simp,qS (nA (by omega) _ _)⟩
  refine gh (fun p hp=>?_) ht.size ht.defers;have hp:p∈[(12,AV.int .i64 n),(13,AV.int .i64 i),(4,AV.ref 20000 0 0 0),(7,AV.ref 20001 0 0 0),(1,AV.ref 20004 0 0 0),(3,AV.bY 31000),(11,AV.bY 31001)]:=hp;simp only[List.mem_cons,List.not_mem_nil,or_false]at hp;rcases hp with rfl|rfl|rfl|rfl|rfl|rfl|rfl
  ·exact ht.rep 12
  ·exact ht.rep 13
  ·exact rA (.inl rfl) Ta.s.t4
  ·exact rA (.inr rfl) Ta.s.t7
  ·exact JR (fun b hb=>Ta.tr.g9 b hb) (ht.rep 1) fun _=>cN (.inl rfl)
  ·exact CW (ht.rep 3) fun _=>cN (.inr (.inl rfl))
  ·exact CW (ht.rep 11) fun _=>cN (.inr (.inr rfl))
 ·refine abx.2 ⟨fun hm=>?_,s.nd⟩;have:=(Aa _ hm).1;omega
 ·have keep:∀b,b<D+1→b<W1.heap.size→¬(Own ψ (hA m []).get b∨Own ψ (hU x d).get b)→W3.heap[b]? = W1.heap[b]? := fun b h1 h2 h3=>by rw[hW3,World.putObj_heap_other (by omega)];exact Ta.tr.block b h2 h3 (by omega)
  intro q hq;rcases abn.1 hq with rfl|hq
  ·refine⟨?_,s.wk.size⟩;rw[←hD];exact(keep D (by omega) (by omega) (fl0 D (by omega) (by omega)).2.2).trans hD1
  ·have h0:=Aa q hq;refine⟨?_,(s.m q hq).2⟩;have own:∀{hp:Heap},(∀j o,hp.get j=some o→(hA m []++(hU x d++hC d out l)).get j=some o)→¬Own ψ hp.get q:=fun {hp} hs ⟨j,h1,h2⟩=>h0.2.2 ⟨j,(by obtain⟨o,ho⟩:=abT.1 h1;rw[hs _ _ ho];simp),h2⟩;rw[keep q (by omega) (by omega) (fun h=>h.elim (own sA) (own sU)),dv q h0.1];exact(s.m q hq).1
 ·intro q hq;have base:q<W1.heap.size∧¬Z q∧¬(Own ψ (hA m []).get q∨Own ψ (hU x d).get q)∧¬Own ψ (hC d out l).get q:=by
   rcases abn.1 hq with rfl|hq
   ·have h1:=fl0 W.heap.size (by omega) (by omega);exact⟨h1.1,h1.2.1,h1.2.2,fun h=>by have:=cD _ h;omega⟩
   ·have h0:=Aa q hq;have own:∀{hp:Heap},(∀j o,hp.get j=some o→(hA m []++(hU x d++hC d out l)).get j=some o)→¬Own ψ hp.get q:=fun {hp} hs ⟨j,h1,h2⟩=>h0.2.2 ⟨j,(by obtain⟨o,ho⟩:=abT.1 h1;rw[hs _ _ ho];simp),h2⟩;exact⟨by omega,h0.2.1,fun h=>h.elim (own sA) (own sU),own sC⟩
  have h2:=Ta.tr.ME (X:=(·=q)) (fun b hb=>by have hb:b=q:=hb;subst hb;exact⟨base.1,base.2.1,base.2.2.1⟩) q rfl;exact⟨by rw[ahx];exact h2.1,h2.2.1,fun h=>(anE q h).elim h2.2.2 base.2.2.2⟩
end Go.Vs
namespace Go.Vs
open Go.Proofs Go.Cy
variable {Z Z' Z0:Nat→Prop} {ψ ψ' ψ0 wq CU:Nat→Value} {h h':Hp} {w w' w0:World} {B0:Nat} {O N:Nat→Prop}
theorem AQ{β α:Type}[DecidableEq β]{x z:β}{v:α}:∀{es:List (β×α)} {i:Nat},(es.findIdx? fun e=>decide (e.1=x))=some i→gV z (es.set i (x,v))=if x=z then some v else gV z es
 |[],i,h=>by simp at h
 |e::r,i,h=>by
  rw[List.findIdx?_cons]at h;by_cases he:e.1=x
  ·rw[if_pos (decide_eq_true he)]at h
   cases h
   rw[List.set_cons_zero,gV,gV];show(if x=z then some v else gV z r)=_;rw[he];by_cases k:x=z
   ·rw[if_pos k,if_pos k]
   ·rw[if_neg k,if_neg k,if_neg k]
  ·rw[if_neg (by simpa using he)]at h;obtain⟨j,hj,rfl⟩:=acS.1 h;have ih:=AQ (z:=z) (v:=v) hj;rw[List.set_cons_succ,gV,gV,ih];by_cases k:e.1=z
   ·rw[if_pos k,if_neg (fun q=>he (k.trans q.symm)),if_pos k]
   ·rw[if_neg k,if_neg k]
theorem AR{β α:Type}[DecidableEq β]{x z:β}{v:α}:∀{es:List (β×α)},(es.findIdx? fun e=>decide (e.1=x))=none→gV z (es++[(x,v)])=if x=z then some v else gV z es
 |[],_=>rfl
 |e::r,h=>by
  rw[List.findIdx?_eq_none_iff]at h;have he:e.1≠x:=by have:=h e abu;simpa using this
  have ih:=AR (z:=z) (v:=v) (es:=r) (List.findIdx?_eq_none_iff.2 fun q hq=>h q (aa5 _ hq));rw[List.cons_append,gV,gV,ih];by_cases k:e.1=z
  ·rw[if_pos k,if_neg (fun q=>he (k.trans q.symm)),if_pos k]
  ·rw[if_neg k,if_neg k]
theorem Tb{α:Type}(x z:ab)(v:α)(es:List (ab×α)):gV z (oO bA x v es)=if x=z then some v else gV z es:=by
 have e:=OX x es;unfold oO
 split
 ·rename_i i hi;exact AQ (e.symm.trans hi)
 ·rename_i hi;exact AR (e.symm.trans hi)
def H9(m:Tm)(T:List ab):Prop:=∀z,(gV z m).getD false=decide (z∈T)
theorem H9.tell{m:Tm}{T:List ab}(h:H9 m T)(l:List ab):H9 (tell m l) (T++l):=by
 induction l generalizing m T with
 |nil=>rw[List.append_nil];exact h
 |cons y r ih =>
  have h1:H9 (qU m y) (T++[y]):=fun z=>by
   unfold qU;rw[Tb];by_cases k:y=z
   ·subst k;simp
   ·rw[if_neg k,h z];have:(z∈T++[y])↔z∈T:=by simp[Ne.symm k]
    rw[Bool.eq_iff_iff];simp[Ne.symm k]
  have:=ih h1;rw[List.append_assoc]at this;exact this
theorem Xp{m:Tm}{T:List ab}(h:H9 m T)(y:ab):(kd bA (y.1,y.2) m).getD false=decide (y∈T):=by have:=Xe y m;show(kd bA y m).getD false=_;rw[this];exact h y
abbrev x0(n i:Int)(m:Tm)(d:ak)(out:List (List ab))(l:List ab):S0.T:=((n,(i,())),(((m,()),((d,()),())),(out,(l,()))))
theorem QF{Ds:List Nat}{sh:Shape}{x:sh.T}{a:Act}{W:World}(s:Ms Z0 w0 Ds sh x a W){i:Nat}{b:Bool}(e:look (aA sh x).tmps i=.bool b):a.eval (.tmp i)=.bool b:=by obtain⟨a0,Z,ψ,s⟩:=s;have:=s.t.rep i;rw[e]at this;rw[s.e,xj];exact this
theorem zc{n:Nat}{fn:Func}{tmps:Array Value}{R:Ending→World→Prop}:∀(Ds:List Nat) (W:World),Ds.Nodup→(∀D,D∈Ds→W.heap[D]? = some (.deferred (some []))) →(∀W',W'.os=W.os→W'.tape=W.tape→W'.output=W.output→W'.heap.size=W.heap.size→(∀b,b∉Ds→W'.heap[b]? = W.heap[b]?)→∃v,(results fn tmps).run Tryz.prog W'=.ok v W'∧R (.returned v) W') → LeavesInM (FW none) n Tryz.prog fn tmps R (Ds.map Yn) .returning W
 |[],W,_,_,h=>h W rfl rfl rfl rfl fun _ _=>rfl
 |D::Ds,W,hn,hd,h=>by
  obtain⟨h1,h2⟩:=abx.1 hn;refine⟨by simp,.inl ⟨D,_,rfl,run_takeDeferred (hd D abu),?_⟩⟩;refine zc Ds _ h2 (fun E hE=>?_) fun W' e1 e2 e3 e4 e5=>?_
  ·rw[World.putObj_heap_other (fun e:E=D=>h1 (by rw[←e];exact hE))];exact hd E (aa5 _ hE)
  ·refine h W' e1 e2 e3 (e4.trans (by simp)) fun b hb=>?_;rw[e5 b (fun k=>hb (List.mem_cons_of_mem _ k))];exact World.putObj_heap_other fun e:b=D=>hb (by rw[e];exact abu)
abbrev SN:Shape:=⟨[(0,eV)],[],[],[]⟩
theorem Td{d:ak}(wf:Wf d):Hd Tryz.prog 240 BB ((d,()),()) ((cg d,()),()):=by
 intro Z ψ0 w lP hg hr;have hr:ax Z ψ0 (Heap.get []) w [cM eV d] lP:=hr;have hg:Good Z ψ0 (Heap.get []) w w.heap.size (Own ψ0 (Heap.get [])):=hg;have FO:∀b,¬Own ψ0 (Heap.get []) b:=fun b ⟨i,h1,_⟩=>h1 rfl;simp only[ax]at hr;obtain⟨u0,_,rfl,hu,rfl⟩:=hr;refine y0 (r:=none) (n:=5) (callsIn_of_wp_marks Tryz.func240 ZG trivial ?_ rfl);obtain⟨CV,MH⟩:∃t:Array Value,t=#[u0]++Array.replicate (Tryz.f240.ntmps-(#[u0]:Array Value).size) undef:=⟨_,rfl⟩;show Code.wpIn _ _ _ _ _ { tmps:=#[u0]++Array.replicate (Tryz.f240.ntmps-(#[u0]:Array Value).size) undef,defers:=[] } w;rw[←MH];have hs0:CV.size=36:=by rw[MH,Tryz.ntmps240];simp
 have e0:CV.getD 0 undef=u0:=by rw[MH];simp
 have ms0:MsX Z w [] SN ((d,()),((),())) { tmps:=CV,defers:=[] } w { tmps:=CV,defers:=[] } Z ψ0:=by refine⟨rfl,Wk.start Z w Gh,hg.Xi fun b h _=>(FO b h).elim,gh (fun p hp=>?_) hs0 rfl,List.nodup_nil,fun D hD=>(by cases hD),fun D hD=>(by cases hD)⟩;have hp:p∈[(0,cM eV d)]:=hp;simp only[List.mem_cons,List.not_mem_nil,or_false]at hp;subst hp;show aD _ _ _ _ _ (CV.getD 0 undef);rw[e0];exact hu
 have anF:F1 249 yl ((d,()),())=some ((fW d.2,()),()):=Xk rfl (ahc hg0 d wf.sm);have hn:=(ani F1 d).trans (aa anF rfl);refine wpIn_seq (wpIn_mono (JV hn 5 ms0) ?_);rintro e a1 W1 ⟨rfl,a2,rfl,_,jN,Z1,qf,q1,ZI,t1⟩;refine wpIn_seq (wpIn_mono (fi sj q1 none 5 _ ZI t1) ?_);rintro e a3 W3 ⟨rfl,a4,rfl,_,st2,Z2,fz,q2,Gg,t2⟩;refine wpIn_seq (wpIn_mono (fi sj q2 none 5 _ Gg t2) ?_);rintro e a5 W5 ⟨rfl,a6,rfl,_,st3,Z3,Uk,q3,ZK,t3⟩;refine wpIn_seq (wpIn_seq (wpIn_mono (fi sj q3 none 5 _ ZK t3) ?_));rintro e a7 W7 ⟨rfl,a8,rfl,_,st4,Z4,DN,q4,ok4,t4⟩;have ms:=O7 ms0 q4 ok4 t4;clear q1 q2 q3 q4 ZI Gg ZK ok4 t1 t2 t3 t4;obtain⟨l,hl⟩:∃l,l=fW d.2:=⟨_,rfl⟩;rw[←hl]at ms;have hll:l.length≤80:=by rw[hl,ox];have:=wf.ne;omega
 have iz:∀y,y∈l→y∈an d.1:=fun y hy=>by rw[hl,mW]at hy;exact wf.pd.mem_iff.2 hy
 refine wpIn_block ?_;refine JU (fun k a W=>∃(i:Nat) (m:Tm) (out:List (List ab)) (T:List ab) (Ds:List Nat),i≤l.length∧k=l.length-i∧out.length≤i∧Ms Z w Ds S0 (x0 ((l.length:Nat):Int) (i:Int) m d out l) a W∧jE d (l.drop i) out T=cg d∧H9 m T) (k:=l.length) ⟨0,[],[],[],[],adL _,rfl,abZ _,ms,by rw[List.drop_zero,hl];rfl,fun z=>by simp[gV]⟩ ?_;rintro k a W ⟨i,m,out,T,Ds,hi,rfl,ho,ms,Na,ht⟩;refine wpIn_seq (wpIn_mono (FK (n4 F1 ((l.length:Nat):Int) (i:Int) _) 5 ms) ?_);rintro e a1 W1 ⟨rfl,ms1⟩;have h14:=QF ms1 (i:=14) rfl;by_cases aK:i<l.length
 case neg =>
  have e:i=l.length:=by omega
  have ef:decide ((i:Int)<((l.length:Nat):Int))=false:=decide_eq_false (by omega);rw[ef]at h14;refine wpIn_seq (wpIn_cond_false h14 (wpIn_exit ?_));show Code.wpIn _ _ _ _ _ _ _;refine wpIn_seq (wpIn_mono (FK (n14 F1 _ _ _ m d out l) 5 ms1) ?_);rintro e a2 W2 ⟨rfl,ms2⟩;refine wpIn_ret ?_;obtain⟨a0,Z2,fz,s⟩:=ms2;rw[e,List.drop_eq_nil_of_le (Nat.le_refl _)]at Na;have Na:out=cg d:=Na;rw[s.e];show LeavesInM _ _ _ _ a0.tmps _ (a0.defers++Ds.map Yn) .returning W2;rw[s.t.defers,List.nil_append];refine zc Ds W2 s.nd (fun D hD=>(s.m D hD).1) fun W3 e1 e2 e3 e4 e5=>?_;have yh:Tryz.f240.results=#[.tmp 2]:=by kernel_rfl
  have nZ:∀b,Z2 b∨Own fz (aA SE ((),((),(out,())))).heap.get b→b∉Ds:=fun b hb hD=>by have:=s.fr b hD;exact hb.elim this.2.1 this.2.2
  have g3:Good Z2 fz (aA SE ((),((),(out,())))).heap.get W3 w.heap.size Gh:=s.g.same (fun _ h=>h) (fun b hb=>e5 b (nZ b hb)) (fun b hb hz=>(s.g.zA b hz).2 hb) fun b hb=>by rw[e4];exact s.g.kT b hb
  have k3:Wk Z w Gh Z2 W3:=⟨s.wk.g9,s.wk.fS,e1.trans s.wk.os,e2.trans s.wk.tape,e3.trans s.wk.output,by rw[e4];exact s.wk.size,fun b hb ho=>by rw[e5 b (fun hD=>by have:=(s.m b hD).2;omega)];exact s.wk.block b hb ho⟩;refine⟨_,results_tmp yh _ _ _,_,Z2,fz,rfl,k3.g9,fun b hb=>?_,⟨k3.os,k3.tape,k3.output,k3.size,fun b hb _=>k3.block b hb fun h=>h⟩,?_,fun i hi=>(by cases hi),?_⟩
  ·rcases k3.fS b hb with h|h|h
   ·exact .inl h
   ·exact h.elim
   ·exact .inr (.inr h)
  ·rw[Na]at g3;exact g3.Xi fun b _ hb=>hb.elim .inl fun h=>h.elim
  ·have r2:=s.t.rep 2;have:aD Z2 fz (aA SE ((),((),(out,())))).heap.get W2 (.bY 3000) (a0.tmps.getD 2 undef):=r2;rw[Na]at this;simp only[aD]at this;show aD Z2 fz _ W3 (.bY 3000) _;simp only[aD];exact this
 have et:decide ((i:Int)<((l.length:Nat):Int))=true:=bj aK;rw[et]at h14;refine wpIn_seq (wpIn_cond_true h14 (wpIn_skip ?_));refine wpIn_seq (wpIn_block (wpIn_seq ?_));have hy:=iz l[i] (acB aK);have h5:=(n5 F1 (decide ((i:Int)<((l.length:Nat):Int))) ((l.length:Nat):Int) (i:Int) m d out l).trans (ae (dU (gy i) (bj aK)) (aa (a:=l[i]) (by rw[Int.toNat_natCast];exact aba aK) rfl));refine wpIn_mono (QE h5 5 ms1) ?_;rintro e a2 W2 ⟨rfl,hc⟩;refine wpIn_seq (wpIn_seq (wpIn_mono hc ?_));rintro e a3 W3 ⟨rfl,ms3⟩;have h19:=QF ms3 (i:=19) rfl;rw[Xp ht]at h19;have Qq:l.drop i=l[i]::l.drop (i+1):=adj aK;rw[Qq,jE]at Na;by_cases hT:l[i]∈T
 ·rw[if_pos hT]at Na;refine wpIn_cond_true (h19.trans (congrArg Value.bool (decide_eq_true hT))) (wpIn_exit ?_);show Code.wpIn _ _ _ _ _ _ _;refine wpIn_mono (FK (anj F1 _ _ _ m d l[i] out l) 5 ms3) ?_;rintro e a4 W4 ⟨rfl,ms4⟩;have ew:=aN aK (by omega);rw[ew]at ms4;exact⟨l.length-(i+1),by omega,i+1,m,out,T,Ds,by omega,rfl,by omega,ms4,Na,ht⟩
 rw[if_neg hT]at Na;refine wpIn_cond_false (h19.trans (congrArg Value.bool (decide_eq_false hT))) (wpIn_skip ?_);refine wpIn_seq (wpIn_mono (QE (n7 F1 _ _ _ m d l[i] out l) 5 ms3) ?_);rintro e a4 W4 ⟨rfl,hc⟩;refine wpIn_seq (wpIn_seq (wpIn_mono hc ?_));rintro e a5 W5 ⟨rfl,ms5⟩;refine wpIn_block (wpIn_mono (Xo 5 wf hy ms5) ?_);rintro e a6 W6 ⟨rfl,ms6⟩;have M9:=(n12 F1 ((l.length:Nat):Int) (i:Int) (tell m (bz d l[i])) (bz d l[i]) d out l).trans (ae (fits (by omega)) rfl);refine wpIn_mono (FK M9 5 ms6) ?_;rintro e a7 W7 ⟨rfl,ms7⟩;refine wpIn_mono (FK (n13 F1 _ _ _) 5 ms7) ?_;rintro e a8 W8 ⟨rfl,ms8⟩;have ew:=aN aK (by omega);rw[ew]at ms8;exact⟨l.length-(i+1),by omega,i+1,_,_,_,_,by omega,rfl,by simp;omega,ms8,Na,ht.tell _⟩
end Go.Vs
