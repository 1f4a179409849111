/- The walk of the function that -/
import Derived.Test.YtpkfpbpbkabkdaaGreatFacesA
set_option linter.unusedSimpArgs false
set_option linter.unusedVariables false
namespace Go.Vs
open Go.Proofs Go.Cy
variable {Z Z' Z0:Nat→Prop} {ψ ψ' ψ0 sP zj:Nat→Value} {h h':Hp} {w w' w0:World} {B0:Nat} {O N:Nat→Prop}
theorem Iu{p:Nat→Prop}(h:∃n,p n):∃n,p n∧∀m,m<n→¬p m:=by
 obtain⟨n,hn⟩:=h
 induction n using Nat.strongRecOn with
 |_ n ih =>
  by_cases k:∃m,m<n∧p m
  ·obtain⟨m,h1,h2⟩:=k;exact ih m h1 h2
  ·exact⟨n,hn,fun m h1 h2=>k ⟨m,h1,h2⟩⟩
open Classical in
noncomputable def least(p:Nat→Prop):Nat:=if h:∃n,p n then Classical.choose (Iu h) else 0
theorem Ca{p:Nat→Prop}(h:∃n,p n):p (least p)∧∀m,p m→least p≤m:=by unfold least;rw[dif_pos h];obtain⟨h1,h2⟩:=Classical.choose_spec (Iu h);exact⟨h1,fun m hm=>Classical.byContradiction fun k=>h2 m (by omega) hm⟩
theorem Fz{F:Fence}{n:Nat}{P:Program}{c:Code}{Q:Exit→Act→World→Prop}(I:Nat→Act→World→Prop){k:Nat}{a:Act}{w:World}(h0:I k a w) (round:∀k a w,I k a w→c.wpIn F n P (Exit.then (fun a' w'=>∃k',k'<k∧I k' a' w') Q) a w):(Code.loop c).wpIn F n P Q a w:=by
 refine wpIn_loop (fun a w=>∃k,I k a w) (fun a w=>least fun k=>I k a w) ⟨k,h0⟩ fun a w hI=>?_;obtain⟨h1,_⟩:=Ca hI;refine wpIn_mono (round _ a w h1) fun e a' w' hq=>?_
 cases e with
 |normal=>obtain⟨k',h2,h3⟩:=hq;exact⟨⟨k',h3⟩,Nat.lt_of_le_of_lt ((Ca ⟨k',h3⟩).2 k' h3) h2⟩
 |_=>exact hq
abbrev hU(x:ab)(d:aj):Heap:=(an U0 ((),(((x,()),((d,()),())),()))).heap
abbrev hB(x:ab)(d:aj)(y:ab):Heap:=(an U1 ((true,()),(((x,()),((d,()),((y,()),()))),()))).heap
def n8(m:Tm)(y:ab):Tm:=l8 bm y true m
def tell(m:Tm)(l:List ab):Tm:=l.foldl n8 m
theorem NO(m:Tm)(l:List ab)(y:ab):tell m (l++[y])=n8 (tell m l) y:=by simp[tell]
structure Bt(W1:World)(Z1:Nat→Prop)(OA OB:Nat→Prop)(B0:Nat)(O:Nat→Prop)(l:Nat)(rc:Loop)(tm:Array Value)(m:Tm)(f:List ab)(x:ab)(d:aj)(y:ab)(Z:Nat→Prop)(sP zj:Nat→Value)(a:Act)(W:World):Prop where
 gA:Good Z sP (hA m f).get W B0 O
 gB:Good Z zj (hB x d y).get W B0 O
 ap:gF (Own zj (hB x d y).get) Z (Own sP (hA m f).get) W
 s:Sl tm Z sP (hA m f).get W
 hl:W.heap[l]? = some (.loop rc)
 fl:gF (·=l) Z (fun b=>Own sP (hA m f).get b∨Own zj (hB x d y).get b) W
 tr:Tr (·=l) Z1 (fun b=>OA b∨OB b) W1 Z (fun b=>Own sP (hA m f).get b∨Own zj (hB x d y).get b) W
 a0:a.tmps.getD 0 undef=.func (.yield l) #[] #[]
 b0:B0≤W.heap.size
theorem XI{W:World}{x y:ab}{d:aj}{v:Value}(g:Good Z zj (hB x d y).get W B0 O)(hr:av Z zj (hB x d y).get W (.ref 20004 0 0 0) v):∃V,(Instr.loadAt 33 v).run Tryz.prog W=.ok V W∧∀ψ h,av Z ψ h W (cc bm y) V:=by have hb:(hB x d y).get 20004=some (.box 33 (enc bm y)):=rfl;obtain⟨q,vs,e1,e2,e3,e4⟩:=g.box _ _ _ hb;simp only[av]at hr;obtain⟨ad,rfl,h2⟩:=hr;have h3:=h2 (by rw[hb];simp);rw[e1]at h3;have h3:ad=⟨q,0,none⟩:=h3;subst h3;obtain⟨V,h4,h5⟩:=jv (P:=Tryz.prog) (t:=33) (a:=⟨q,0,none⟩) (x:=cc bm y) e3 (fun j u hu=>by rw[cG,Nat.zero_add];simp only[World.cell?,e2];simpa using hu) (by kernel_rfl);exact⟨V,h4,fun ψ h=>h5.move (p:=fun _=>False) (fun _ h=>h) (cp.refl _ _) (fun _ k=>k.elim) (nu _ bm y)⟩
structure Itr(W1:World)(Z1:Nat→Prop)(OA OB:Nat→Prop)(B0:Nat)(O:Nat→Prop)(l:Nat)(rc:Loop)(tm:Array Value)(m:Tm)(f:List ab)(Z:Nat→Prop)(sP:Nat→Value)(W:World):Prop where
 gA:Good Z sP (hA m f).get W B0 O
 s:Sl tm Z sP (hA m f).get W
 hl:W.heap[l]? = some (.loop rc)
 tr:Tr (·=l) Z1 (fun b=>OA b∨OB b) W1 Z (Own sP (hA m f).get) W
theorem Us(n:Nat){W1:World}{m:Tm}{f:List ab}{x:ab}{d:aj}{l D:Nat}{fn:FuncId}{tm:Array Value}{px pd:Value}(wf:Wf d)(hx:x∈ar d.1) (gA:Good Z sP (hA m f).get W1 B0 O) (gB:Good Z zj (hU x d).get W1 B0 O) (ap:gF (Own zj (hU x d).get) Z (Own sP (hA m f).get) W1) (hB0:B0≤W1.heap.size) (s:Sl tm Z sP (hA m f).get W1) (rx:av Z zj (hU x d).get W1 (.ref 20002 0 0 0) px) (rd:av Z zj (hU x d).get W1 (.ref 20003 0 0 0) pd) (hl:W1.heap[l]? = some (.loop (mX .ready fn tm D))) (fl:gF (·=l) Z (fun b=>Own sP (hA m f).get b∨Own zj (hU x d).get b) W1) (hf:f.length+(bh d x).length≤fz) :
  CallsIn (FW none) n Tryz.prog 254 #[.func (.yield l) #[] #[],px,pd] W1 fun e W'=>(∃v,e=.returned v)∧∃Z' ψ',Itr W1 Z (Own sP (hA m f).get) (Own zj (hU x d).get) B0 O l (mX .ready fn tm D) tm (tell m (bh d x)) (f++bh d x) Z' ψ' W':=by
 obtain⟨r0,htr,FI,bu,hcy⟩:=BX wf hx;refine callsIn_of_wp Tryz.func254 Uq trivial ?_ rfl;obtain⟨zk,Ix⟩:∃t:Array Value,t=#[.func (.yield l) #[] #[],px,pd]++Array.replicate (Tryz.f254.ntmps-(#[.func (.yield l) #[] #[],px,pd]:Array Value).size) undef:=⟨_,rfl⟩;rw[←Ix];have XJ:zk.size=23:=by rw[Ix,Tryz.ntmps254];simp
 have e0:zk.getD 0 undef=.func (.yield l) #[] #[]:=by rw[Ix];simp
 have e1:zk.getD 1 undef=px:=by rw[Ix];simp
 have e2:zk.getD 2 undef=pd:=by rw[Ix];simp
 have t0:cH Z zj (hU x d).get W1 23 (look (an U0 ((),(((x,()),((d,()),())),()))).tmps) { tmps:=zk,defers:=[] }:=by
  refine eE (fun p hp=>?_) XJ rfl;have hp:p∈[(1,AV.ref 20002 0 0 0),(2,AV.ref 20003 0 0 0)]:=hp;simp only[List.mem_cons,List.not_mem_nil,or_false]at hp;rcases hp with rfl|rfl
  ·show av _ _ _ _ _ (zk.getD 1 undef);rw[e1];exact rx
  ·show av _ _ _ _ _ (zk.getD 2 undef);rw[e2];exact rd
 have zA:∀b,Z b→¬Own sP (hA m f).get b:=fun b hb=>(gA.zA b hb).2;have zl:∀b,Z b→¬b=l:=fun b hb e=>(fl l rfl).2.1 (e▸hb);refine wpIn_seq ?_;refine wpIn_mono (dK o6 (u0 F1 x d) none n [] (Good.start gB) t0) ?_;rintro e a1 W2 ⟨rfl,a2,rfl,k1,ia,Z1,m0,XE,Ur,t1⟩;obtain⟨Z2,dN,Cs,t2⟩:=fS XE Ur t1;have gB2:Good Z2 dN (hB x d x).get W2 B0 O:=Cs.Kx gB hB0;have VV:Tr (fun _=>False) Z (Own zj (hU x d).get) W1 Z2 (Own dN (hB x d x).get) W2:=Cs.tr;have fA:gF (Own sP (hA m f).get) Z (Own zj (hU x d).get) W1:=fun b hb=>⟨gA.bM hb,fun hz=>zA b hz hb,fun h2=>(ap b h2).2.2 hb⟩;have gA2:Good Z2 sP (hA m f).get W2 B0 O:=VV.part (fun b hb=>(gB.zA b hb).2) gA fA (fun _ _ h=>h) gB2.ju;obtain⟨fA2,_⟩:=VV.free fA fun _ _ h=>h;have ap2:gF (Own dN (hB x d x).get) Z2 (Own sP (hA m f).get) W2:=fun b hb=>⟨gB2.bM hb,fun hz=>(gB2.zA b hz).2 hb,fun h2=>(fA2 b h2).2.2 hb⟩;have sm2:cp Z W1 W2:=VV.same gB.zA fun _ _ h=>h;have s2:Sl tm Z2 sP (hA m f).get W2:=⟨s.n,s.t4.less Cs.fC sm2 fun i hi=>⟨hi,rfl⟩,s.t7.less Cs.fC sm2 fun i hi=>⟨hi,rfl⟩⟩;obtain⟨Oa,vQ⟩:=(VV.beside (Own sP (hA m f).get)).free (X:=(·=l)) (fun b hb=>⟨(fl b hb).1,(fl b hb).2.1,fun h=>(fl b hb).2.2 h.symm⟩) fun _ _ h=>h;rw[dz];refine wpIn_block ?_;have start:Bt W1 Z (Own sP (hA m f).get) (Own zj (hU x d).get) B0 O l (mX .ready fn tm D) tm m f x d x Z2 sP dN a2 W2 :=⟨gA2,gB2,ap2,s2,(vQ l rfl).trans hl,fun b hb=>⟨(Oa b hb).1,(Oa b hb).2.1,fun h=>(Oa b hb).2.2 h.symm⟩,(VV.beside (Own sP (hA m f).get)).less (fun b h=>h.symm) (fun b h=>h.symm) (fun _ h=>h.elim),(k1 0 (by simp)).trans e0,adk hB0 VV.size⟩;refine Fz (fun k a W=>∃pre y rest Z' ahK acj b,bh d x=pre++y::rest∧k=rest.length∧Bt W1 Z (Own sP (hA m f).get) (Own zj (hU x d).get) B0 O l (mX .ready fn tm D) tm (tell m pre) (f++pre) x d y Z' ahK acj a W ∧ cH Z' acj (hB x d y).get W 23 (look (an U1 ((b,()),(((x,()),((d,()),((y,()),()))),()))).tmps) a) (k:=r0.length) ⟨[],x,r0,Z2,sP,dN,true,htr,rfl,by rw[List.append_nil];exact start,t2⟩ ?_;rintro k a W ⟨pre,y,rest,Z3,OV,Al,bb,lZ,rfl,bt,t3⟩;have hy:y∈ar d.1:=bu y (by rw[←htr,lZ];simp);have r4:av Z3 Al (hB x d y).get W (.ref 20004 0 0 0) (a.tmps.getD 4 undef):=t3.rep 4;obtain⟨V,hV,rV⟩:=XI bt.gB r4;have hlen:(f++pre).length+1≤fz:=by rw[lZ]at hf;simp at hf ⊢;omega
 have rin:=RX (n-1) bt.gA bt.b0 bt.s (rV OV _) hlen bt.hl (fun b hb=>⟨(bt.fl b hb).1,(bt.fl b hb).2.1,fun h=>(bt.fl b hb).2.2 (.inl h)⟩);have Cp:(Instr.yield l #[V]).run Tryz.prog W=.ok (.round l fn (tm.setIfInBounds 23 V) (r6 9) bd) W:=by have:=run_yield (P:=Tryz.prog) (args:=#[V]) bt.hl rfl;simpa[mX] using this
 refine wpIn_seq (wpIn_seq ?_);refine RY n t3.size bt.a0 hV Cp (rin.mono ?_);rintro e W4 ⟨rfl,Z4,LN,Iy⟩;refine⟨.bool true,rfl,?_⟩;obtain⟨b,hb⟩:∃b,b=((a.put (some 7) (.func (.yield l) #[] #[])).put (some 8) V).put (some 9) (.bool true):=⟨_,rfl⟩;rw[←hb];have other:∀i,i≠7→i≠8→i≠9→b.tmps.getD i undef=a.tmps.getD i undef:=fun i h7 h8 h9=>by rw[hb,bW _ _ (fun j hj=>by cases hj;exact h9),bW _ _ (fun j hj=>by cases hj;exact h8),bW _ _ (fun j hj=>by cases hj;exact h7)]
 have bsz:b.tmps.size=23:=by rw[hb,cq,cq,cq];exact t3.size
 have bdf:b.defers=[]:=by rw[hb,put_defers,put_defers,put_defers];exact t3.defers
 have b9:b.eval (.tmp 9)=.bool true:=by
  have:((a.put (some 7) (.func (.yield l) #[] #[])).put (some 8) V).tmps.size=23:=by rw[cq,cq];exact t3.size
  rw[hb];show(((a.put (some 7) (.func (.yield l) #[] #[])).put (some 8) V).put (some 9) (.bool true)).tmps.getD 9 undef=_;rw[gP (by omega),if_pos rfl]
 refine wpIn_cond_true b9 (wpIn_skip (wpIn_block (wpIn_seq ?_)));have z3l:∀q,Z3 q→¬q=l:=fun q hq e=>(bt.fl l rfl).2.1 (e▸hq);have bl:∀q,Own Al (hB x d y).get q→¬q=l:=fun q hq e=>(bt.fl l rfl).2.2 (.inr (e▸hq));have gB4:Good Z4 Al (hB x d y).get W4 B0 O:=Iy.tr.part (fun q hq=>(bt.gA.zA q hq).2) bt.gB bt.ap (fun q hq=>hq.elim (z3l q) (bl q)) Iy.g.ju;obtain⟨ap4,_⟩:=Iy.tr.free bt.ap bl;have sm4:cp Z3 W W4:=Iy.tr.same bt.gA.zA z3l;have t4:cH Z4 Al (hB x d y).get W4 23 (look (an U1 ((bb,()),(((x,()),((d,()),((y,()),()))),()))).tmps) b:=by
  have up:∀i v,i≠7→i≠8→i≠9→look (an U1 ((bb,()),(((x,()),((d,()),((y,()),()))),()))).tmps i=v→av Z4 Al (hB x d y).get W4 v (b.tmps.getD i undef):=fun i v h7 h8 h9 e=>by rw[other i h7 h8 h9,←e];exact(t3.rep i).less Iy.tr.fC sm4 fun j hj=>⟨hj,rfl⟩
  refine eE (fun p hp=>?_) bsz bdf;have hp:p∈[(5,AV.bool bb),(1,AV.ref 20002 0 0 0),(2,AV.ref 20003 0 0 0),(4,AV.ref 20004 0 0 0)]:=hp;simp only[List.mem_cons,List.not_mem_nil,or_false]at hp;rcases hp with rfl|rfl|rfl|rfl
  ·exact up 5 _ (by decide) (by decide) (by decide) rfl
  ·exact up 1 _ (by decide) (by decide) (by decide) rfl
  ·exact up 2 _ (by decide) (by decide) (by decide) rfl
  ·exact up 4 _ (by decide) (by decide) (by decide) rfl
 have hB4:B0≤W4.heap.size:=adk bt.b0 Iy.tr.size;have ahL:F1 255 Dy ((d,((y.1,y.2),())),())=some ((ph d y,(true,())),()):=by have:=RV rfl (ab3 hg0 d y wf);rw[Ib wf hy]at this;exact this
 have hn:=(u2 F1 bb x y d).trans (aa ahL rfl);have run:=dK o6 hn none n [] (Good.start gB4) t4;rw[dz]at run;refine wpIn_mono run ?_;clear run;rintro e a5 W5 ⟨rfl,a6,rfl,k6,st6,Z6,ψ6,XG,ok6,t6⟩;refine wpIn_seq ?_;refine wpIn_mono (dK o6 XG none n [] ok6 t6) ?_;rintro e a7 W7 ⟨rfl,a8,rfl,k8,st8,Z8,ψ8,ahM,ok8,t8⟩;obtain⟨Z9,ψ9,ok9,t9⟩:=fS ahM ok8 t8;rw[dz];have gB9:Good Z9 ψ9 (hB x d (ph d y)).get W7 B0 O:=ok9.Kx gB4 hB4;have YB:Tr (fun _=>False) Z4 (Own Al (hB x d y).get) W4 Z9 (Own ψ9 (hB x d (ph d y)).get) W7:=ok9.tr;have fA4:gF (Own LN (hA (n8 (tell m pre) y) (f++pre++[y])).get) Z4 (Own Al (hB x d y).get) W4:=fun q hq=>⟨Iy.g.bM hq,fun hz=>(Iy.g.zA q hz).2 hq,fun h2=>(ap4 q h2).2.2 hq⟩;have gA9:Good Z9 LN (hA (n8 (tell m pre) y) (f++pre++[y])).get W7 B0 O:=YB.part (fun q hq=>(gB4.zA q hq).2) Iy.g fA4 (fun _ _ h=>h) gB9.ju;obtain⟨fA9,_⟩:=YB.free fA4 fun _ _ h=>h;have ap9:gF (Own ψ9 (hB x d (ph d y)).get) Z9 (Own LN (hA (n8 (tell m pre) y) (f++pre++[y])).get) W7:=fun q hq=>⟨gB9.bM hq,fun hz=>(gB9.zA q hz).2 hq,fun h2=>(fA9 q h2).2.2 hq⟩;have sm9:cp Z4 W4 W7:=YB.same gB4.zA fun _ _ h=>h;have s9:Sl tm Z9 LN (hA (n8 (tell m pre) y) (f++pre++[y])).get W7:=⟨Iy.s.n,Iy.s.t4.less ok9.fC sm9 fun i hi=>⟨hi,rfl⟩,Iy.s.t7.less ok9.fC sm9 fun i hi=>⟨hi,rfl⟩⟩;have trB:Tr (·=l) Z1 (fun q=>Own sP (hA m f).get q∨Own zj (hU x d).get q) W1 Z1 (fun q=>Own sP (hA m f).get q∨Own zj (hU x d).get q) W1:=Tr.refl;have tr4:Tr (·=l) Z (fun q=>Own sP (hA m f).get q∨Own zj (hU x d).get q) W1 Z9 (fun q=>Own LN (hA (n8 (tell m pre) y) (f++pre++[y])).get q∨Own ψ9 (hB x d (ph d y)).get q) W7 :=(bt.tr.trans (Iy.tr.beside _)).trans ((YB.beside (Own LN (hA (n8 (tell m pre) y) (f++pre++[y])).get)).less (fun q h=>h.symm) (fun q h=>h.symm) (fun _ h=>h.elim));have fl4:gF (·=l) Z4 (fun q=>Own LN (hA (n8 (tell m pre) y) (f++pre++[y])).get q∨Own Al (hB x d y).get q) W4:=fun q hq=>by
  have hq:q=l:=hq;subst hq;have h0:=bt.fl q rfl;refine⟨ady h0.1 Iy.tr.size,fun hz=>?_,fun ho=>?_⟩
  ·rcases Iy.tr.dY q hz with e|e|e
   ·exact h0.2.1 e
   ·exact h0.2.2 (.inl e)
   ·have:=h0.1;omega
  ·rcases ho with ho|ho
   ·rcases Iy.tr.own q ho with e|e
    ·exact h0.2.2 (.inl e)
    ·have:=h0.1;omega
   ·exact h0.2.2 (.inr ho)
 obtain⟨fl9,hl9⟩:=(YB.beside (Own LN (hA (n8 (tell m pre) y) (f++pre++[y])).get)).free (X:=(·=l)) (fun q hq=>⟨(fl4 q hq).1,(fl4 q hq).2.1,fun h=>(fl4 q hq).2.2 h.symm⟩) fun _ _ h=>h;have a8z:a8.tmps.getD 0 undef=.func (.yield l) #[] #[]:=(k8 0 (by simp)).trans ((k6 0 (by simp)).trans ((other 0 (by decide) (by decide) (by decide)).trans bt.a0));have aco:W7.heap[l]? = some (.loop (mX .ready fn tm D)):=(hl9 l rfl).trans Iy.l;have XK:a8.eval (.tmp 22)=.bool (((((ph d y).1.1==x.1.1)&&((ph d y).1.2==x.1.2))&&((ph d y).2==x.2))):=t9.rep 22;have acp:n8 (tell m pre) y=tell m (pre++[y]):=(NO m pre y).symm;have ahQ:f++pre++[y]=f++(pre++[y]):=List.append_assoc _ _ _;rw[acp,ahQ]at gA9 ap9 s9 tr4 fl9;have hp:Path (ph d) (pre++y::rest) x:=by rw[←lZ,htr];exact hcy
 have hpy:ph d y=rest.head?.getD x:=(Path.app.1 hp).2.1;rw[kz]at XK
 cases rest with
 |nil =>
  have e:ph d y=x:=hpy;refine wpIn_cond_true (XK.trans (congrArg Value.bool (decide_eq_true e))) (wpIn_ret ?_);have uH:(results Tryz.f254 a8.tmps).run Tryz.prog W7=.ok (.tuple #[]) W7:=by
   have hr:Tryz.f254.results=#[]:=by kernel_rfl
   exact results_none hr _ _ _
  refine⟨t9.defers,_,uH,⟨_,rfl⟩,Z9,LN,?_⟩;rw[lZ];exact⟨gA9,s9,aco,tr4.less (fun _ h=>h) (fun q h=>.inl h) fun _ h=>h⟩
 |cons y' r =>
  have e:ph d y=y':=hpy;have bq:ph d y≠x:=fun k=>by
   rw[htr]at lZ;have XL:=FI;rw[lZ]at XL;have h1:x∈pre++[y]:=by
    cases pre with
    |nil=>simp at lZ;simp[lZ.1]
    |cons q t=>simp at lZ;simp[lZ.1]
   rw[show pre++y::y'::r=(pre++[y])++y'::r by simp]at XL;exact(adz.1 XL).2.2 x h1 y' ac9 (k.symm.trans e)
  refine wpIn_cond_false (XK.trans (congrArg Value.bool (decide_eq_false bq))) (wpIn_skip ?_);rw[e]at gB9 ap9 tr4 fl9 t9;refine⟨r.length,by simp,pre++[y],y',r,Z9,LN,ψ9,true,by rw[lZ];simp,rfl,⟨gA9,gB9,ap9,s9,aco,fun q hq=>⟨(fl9 q hq).1,(fl9 q hq).2.1,fun h=>(fl9 q hq).2.2 h.symm⟩,tr4,a8z,adk hB4 YB.size⟩,?_⟩;refine eE (fun p hp=>?_) t9.size t9.defers;have hp:p∈[(5,AV.bool true),(1,AV.ref 20002 0 0 0),(2,AV.ref 20003 0 0 0),(4,AV.ref 20004 0 0 0)]:=hp;simp only[List.mem_cons,List.not_mem_nil,or_false]at hp;rcases hp with rfl|rfl|rfl|rfl
  ·exact t9.rep 5
  ·exact t9.rep 1
  ·exact t9.rep 2
  ·exact t9.rep 4
end Go.Vs
namespace Go.Vs
open Go.Proofs Go.Cy
variable {Z Z' Z0:Nat→Prop} {ψ ψ' ψ0 sP zj:Nat→Value} {h h':Hp} {w w' w0:World} {B0:Nat} {O N:Nat→Prop}
abbrev Ct:Nat→Prop:=fun _=>False
def SQ(D:Nat):Deferred:={ target:=.collected D,args:=#[] }
structure MsX(Z0:Nat→Prop)(w0:World)(Ds:List Nat)(sh:Shape)(x:sh.T)(a:Act)(W:World)(a0:Act)(Z:Nat→Prop)(ψ:Nat→Value):Prop where
 e:a=kG (Ds.map SQ) a0
 wk:Wk Z0 w0 Ct Z W
 g:Good Z ψ (an sh x).heap.get W w0.heap.size Ct
 t:cH Z ψ (an sh x).heap.get W 36 (look (an sh x).tmps) a0
 nd:Ds.Nodup
 m:∀D,D∈Ds→W.heap[D]? = some (.deferred (some []))∧w0.heap.size≤D
 fr:gF (·∈Ds) Z (Own ψ (an sh x).heap.get) W
def Ms(Z0:Nat→Prop)(w0:World)(Ds:List Nat)(sh:Shape)(x:sh.T)(a:Act)(W:World):Prop:=∃a0 Z ψ,MsX Z0 w0 Ds sh x a W a0 Z ψ
variable {Ds:List Nat} {sh sh':Shape} {x:sh.T} {x':sh'.T} {a:Act} {W:World}
theorem FA{c:Code}{R:Type}{kk:St→Option R}{y:R}(hx:rn F1 36 [] c (an sh x) kk=some y)(n:Nat){a0:Act}(s:MsX Z0 w0 Ds sh x a W a0 Z ψ) :
  c.wpIn (FW none) n Tryz.prog (Aft 36 [] (fun d=>a0.tmps.getD d undef) (Ds.map SQ) kk y Z W (Own ψ (an sh x).heap.get) ψ) a W:=by
 rw[s.e];exact dK o6 hx none n _ (Good.start s.g) s.t
theorem KA{st:St}{a1:Act}{W':World}(s:MsX Z0 w0 Ds sh x a W a1 Z ψ)(tY:cx sh' st=some x'){ψ':Nat→Value}{Z':Nat→Prop}{a2:Act}(ok:Ok Z W (Own ψ (an sh x).heap.get) ψ Z' ψ' st.heap.get W')(t:cH Z' ψ' st.heap.get W' 36 (look st.tmps) a2):Ms Z0 w0 Ds sh' x' (kG (Ds.map SQ) a2) W':=by obtain⟨Z2,dN,Cs,t2⟩:=fS tY ok t;obtain⟨f1,f2⟩:=(Cs.tr (L:=Ct)).free s.fr fun _ _ h=>h;exact⟨a2,Z2,dN,rfl,s.wk.step (Cs.tr (L:=Ct)) s.g.from (fun _ h=>h.elim),Cs.Kx s.g s.wk.size,t2,s.nd,fun D hD=>⟨(f2 D hD).trans (s.m D hD).1,(s.m D hD).2⟩,f1⟩
theorem Cb{c:Code}(hx:rn F1 36 [] c (an sh x) (cx sh')=some x')(n:Nat)(s:Ms Z0 w0 Ds sh x a W):c.wpIn (FW none) n Tryz.prog (fun e a' W'=>e=.normal∧Ms Z0 w0 Ds sh' x' a' W') a W:=by obtain⟨a0,Z,ψ,s⟩:=s;refine wpIn_mono (FA hx n s) ?_;rintro e a1 W1 ⟨rfl,a2,rfl,_,st,Z1,m0,tY,ok,t⟩;exact⟨rfl,KA s tY ok t⟩
theorem LO{c c':Code}(hx:(rn F1 36 [] c (an sh x) fun st=>rn F1 36 [] c' st (cx sh'))=some x')(n:Nat)(s:Ms Z0 w0 Ds sh x a W) :
  c.wpIn (FW none) n Tryz.prog (fun e a' W'=>e=.normal∧c'.wpIn (FW none) n Tryz.prog (fun e a' W'=>e=.normal∧Ms Z0 w0 Ds sh' x' a' W') a' W') a W:=by
 obtain⟨a0,Z,ψ,s⟩:=s;refine wpIn_mono (FA hx n s) ?_;rintro e a1 W1 ⟨rfl,a2,rfl,_,st,Z1,m0,tY,ok,t⟩;refine⟨rfl,wpIn_mono (dK o6 tY none n _ ok t) ?_⟩;rintro e a3 W3 ⟨rfl,a4,rfl,_,st3,Z3,OV,XM,Ut,t3⟩;exact⟨rfl,KA s XM Ut t3⟩
abbrev hC(d:aj)(out:List (List ab))(l:List ab):Heap:=[(20004,.box 41 (enc dQ d))]++qf rws ((out,(l,())):I4 (rws.map (·.2.2)))
theorem zm{i:Nat}{v:Value}(hr:av Z ψ h w (.bF i) v)(hi:h' i≠none→h i≠none∧ψ' i=ψ i):av Z' ψ' h' w' (.bF i) v:=by simp only[av]at hr ⊢;exact⟨hr.1,fun k=>by obtain⟨k1,k2⟩:=hi k;rw[k2];exact hr.2 k1⟩
theorem Cc{m:Tm}{f:List ab}{i:Nat}(h:(hA m f).get i≠none):i=20000∨i=9000∨i=20001∨i=9016:=by
 have e:hA m f=[(20000,.box 224 [.bF 9000]),(9000,.own (.map bm .bool) m),(20001,.box 50 [.bF 9016]),(9016,.own (.row 33 bm) f)]:=rfl;rw[e]at h;simp only[Heap.get]at h;by_cases h1:20000=i
 ·exact .inl h1.symm
 by_cases h2:9000=i
 ·exact .inr (.inl h2.symm)
 by_cases h3:20001=i
 ·exact .inr (.inr (.inl h3.symm))
 by_cases h4:9016=i
 ·exact .inr (.inr (.inr h4.symm))
 rw[if_neg h1,if_neg h2,if_neg h3,if_neg h4]at h;exact absurd rfl h
theorem FB{x:ab}{d:aj}{i:Nat}(h:(hU x d).get i≠none):i=20002∨i=20003:=by
 have e:hU x d=[(20002,.box 33 (enc bm x)),(20003,.box 41 (enc dQ d))]:=rfl;rw[e]at h;simp only[Heap.get]at h;by_cases h1:20002=i
 ·exact .inl h1.symm
 by_cases h2:20003=i
 ·exact .inr h2.symm
 rw[if_neg h1,if_neg h2]at h;exact absurd rfl h
theorem Cd{d:aj}{out:List (List ab)}{l:List ab}{i:Nat}(h:(hC d out l).get i≠none):i=20004∨i=31000∨i=31001:=by
 have e:hC d out l=[(20004,.box 41 (enc dQ d)),(31000,.own (.row 50 (.sl bm)) out),(31001,.own (.row 33 bm) l)]:=rfl;rw[e]at h;simp only[Heap.get]at h;by_cases h1:20004=i
 ·exact .inl h1.symm
 by_cases h2:31000=i
 ·exact .inr (.inl h2.symm)
 by_cases h3:31001=i
 ·exact .inr (.inr h3.symm)
 rw[if_neg h1,if_neg h2,if_neg h3]at h;exact absurd rfl h
theorem wY{a b:Heap}{i:Nat}{o:Ob}(h:a.get i=some o):(a++b).get i=some o:=by rw[Heap.get_append,h]
theorem rR{a b:Heap}{i:Nat}(h:a.get i=none):(a++b).get i=b.get i:=by rw[Heap.get_append,h]
theorem FC{h:Hp}{i:Nat}(k:h i≠none→False):h i=none:=by
 cases e:h i with
 |none=>rfl
 |some _=>exact(k (by rw[e];simp)).elim
theorem Ce{a b c:Heap}(g:Good Z ψ c.get w B0 O)(sa:∀i o,a.get i=some o→c.get i=some o)(sb:∀i o,b.get i=some o→c.get i=some o)(dis:∀i,a.get i≠none→b.get i≠none→False):gF (Own ψ b.get) Z (Own ψ a.get) w:=by
 have up:∀{e:Heap} (se:∀i o,e.get i=some o→c.get i=some o) {i},e.get i≠none→c.get i≠none:=fun {e} se {i} hi=>by obtain⟨o,ho⟩:=ade.1 hi;rw[se i o ho];simp
 rintro q ⟨i,h1,h2⟩;refine⟨g.bM ⟨i,up sb h1,h2⟩,(g.live i q (up sb h1) h2).1,?_⟩;rintro⟨j,h3,h4⟩;have e:=g.apart i j q (up sb h1) (up sa h3) h2 h4;subst e;exact dis i h3 h1
end Go.Vs
namespace Go.Vs
open Go.Proofs Go.Cy
variable {Z Z' Z0:Nat→Prop} {ψ ψ' ψ0 sP zj:Nat→Value} {h h':Hp} {w w' w0:World} {B0:Nat} {O N:Nat→Prop}
variable {Ds:List Nat} {a:Act} {W:World}
abbrev x3(n i:Int)(m:Tm)(f:List ab)(x:ab)(d:aj)(out:List (List ab))(l:List ab):S3.T:=((n,(i,())),(((m,()),((f,()),((x,()),((d,()),((d,()),()))))),(out,(l,()))))
abbrev x12(n i:Int)(m:Tm)(f:List ab)(d:aj)(out:List (List ab))(l:List ab):S12.T:=((n,(i,())),(((m,()),((f,()),((d,()),()))),(out,(l,()))))
set_option maxRecDepth 20000 in
theorem RZ(k:Nat){n i:Int}{m:Tm}{x:ab}{d:aj}{out:List (List ab)}{l:List ab}(wf:Wf d)(hx:x∈ar d.1)(s:Ms Z0 w0 Ds S3 (x3 n i m [] x d out l) a W) :
  cRF.wpIn (FW none) k Tryz.prog (fun e a' W'=>e=.normal∧Ms Z0 w0 (W.heap.size::Ds) S12 (x12 n i (tell m (bh d x)) (bh d x) d out l) a' W') a W:=by
 obtain⟨a0,Z,ψ,s⟩:=s;have hH:(an S3 (x3 n i m [] x d out l)).heap=hA m []++(hU x d++hC d out l):=rfl;have hg:=s.g;have CG:=s.fr;have ht:=s.t;rw[hH]at hg CG ht;have sA:∀j o,(hA m []).get j=some o→(hA m []++(hU x d++hC d out l)).get j=some o:=fun j o e=>wY e;have nA:∀{j},j=20002∨j=20003∨j=20004∨j=31000∨j=31001→∀m f,(hA m f).get j=none:=fun {j} hj m f=>FC fun e=>by have:=Cc e;omega
 have nU:∀{j},j=20004∨j=31000∨j=31001→(hU x d).get j=none:=fun {j} hj=>FC fun e=>by have:=FB e;omega
 have sU:∀j o,(hU x d).get j=some o→(hA m []++(hU x d++hC d out l)).get j=some o:=fun j o e=>by have:=FB (show(hU x d).get j≠none by rw[e];simp);rw[rR (nA (by omega) m []),wY e]
 have sC:∀j o,(hC d out l).get j=some o→(hA m []++(hU x d++hC d out l)).get j=some o:=fun j o e=>by have:=Cd (show(hC d out l).get j≠none by rw[e];simp);rw[rR (nA (by omega) m []),rR (nU (by omega)),e]
 have gA:=hg.sub sA;have gU:=hg.sub sU;have gC:=hg.sub sC;have fUA:gF (Own ψ (hU x d).get) Z (Own ψ (hA m []).get) W:=Ce hg sA sU fun j h1 h2=>by have:=Cc h1;have:=FB h2;omega
 have fCA:gF (Own ψ (hC d out l).get) Z (Own ψ (hA m []).get) W:=Ce hg sA sC fun j h1 h2=>by have:=Cc h1;have:=Cd h2;omega
 have fCU:gF (Own ψ (hC d out l).get) Z (Own ψ (hU x d).get) W:=Ce hg sU sC fun j h1 h2=>by have:=FB h1;have:=Cd h2;omega
 have XK:=ht.rep 22;have e22:look (an S3 (x3 n i m [] x d out l)).tmps 22=.fn 254 [.ref 20002 0 0 0,.ref 20003 0 0 0]:=rfl;rw[e22]at XK;simp only[av,ak]at XK;obtain⟨ws,hv,px,_,WC,rx,pd,_,rfl,rd,rfl⟩:=XK;have WC:ws=#[px,pd]:=Array.ext' WC;subst WC;have less:∀{hp:Heap} {v:AV} {u:Value},(∀j o,hp.get j=some o→(hA m []++(hU x d++hC d out l)).get j=some o)→av Z ψ (hA m []++(hU x d++hC d out l)).get W v u→av Z ψ hp.get W v u:=fun {hp v u} hs hr=>hr.pM hs;have rx:av Z ψ (hU x d).get W (.ref 20002 0 0 0) px:=less sU (by simp only[av];exact rx);have rd:av Z ψ (hU x d).get W (.ref 20003 0 0 0) pd:=less sU (by simp only[av];exact rd);have sl:Sl a0.tmps Z ψ (hA m []).get W:=⟨ht.size,less sA (ht.rep 4),less sA (ht.rep 7)⟩;rw[s.e];refine wpIn_rangeFunc ?_;intro fn _;obtain⟨D,hD⟩:∃D,D=W.heap.size:=⟨_,rfl⟩;obtain⟨W1,Bv⟩:∃W1,W1=(W.alloc (.deferred (some []))).alloc (.loop (mX .ready fn a0.tmps D)):=⟨_,rfl⟩;have iF:W1.heap.size=D+2:=by rw[Bv,hD];simp
 have cK:∀b,b<W.heap.size→W1.heap[b]? = W.heap[b]? := fun b hb=>by rw[Bv,heap_alloc_old _ _ (by rw[World.size_alloc];omega),heap_alloc_old _ _ hb]
 have hL1:W1.heap[D+1]? = some (.loop (mX .ready fn a0.tmps D)):=by have:=World.alloc_heap_new (W.alloc (.deferred (some []))) (.loop (mX .ready fn a0.tmps D));rw[World.size_alloc,←Bv,←hD]at this;exact this
 have hD1:W1.heap[D]? = some (.deferred (some [])):=by rw[Bv,hD,heap_alloc_old _ _ (by rw[World.size_alloc];omega)];exact World.alloc_heap_new W _
 have lift:∀{hp:Heap} {ψ:Nat→Value},Good Z ψ hp.get W w0.heap.size Ct→Good Z ψ hp.get W1 w0.heap.size Ct:=fun {hp ψ} g=>g.same (fun _ h=>h) (fun b hb=>cK b (hb.elim (g.ju b) g.bM)) (fun b hb hz=>(g.zA b hz).2 hb) fun b hb=>by have:=g.ju b hb;omega
 have XN:cp Z W W1:=fun b hb=>cK b (hg.ju b hb);have gA1:=lift gA;have gU1:=lift gU;have gC1:=lift gC;have up:∀{X A:Nat→Prop},gF X Z A W→gF X Z A W1:=fun {X A} f b hb=>⟨by have:=(f b hb).1;omega,(f b hb).2⟩;have sl1:Sl a0.tmps Z ψ (hA m []).get W1:=⟨sl.n,sl.t4.less (fun _ h=>h) XN fun j hj=>⟨hj,rfl⟩,sl.t7.less (fun _ h=>h) XN fun j hj=>⟨hj,rfl⟩⟩;have fresh:∀{hp:Heap} {b:Nat},Good Z ψ hp.get W w0.heap.size Ct→W.heap.size≤b→¬Z b∧¬Own ψ hp.get b:=fun {hp b} g hb=>⟨fun hz=>by have:=g.ju b hz;omega,fun ho=>by have:=g.bM ho;omega⟩;have fl0:∀b,D≤b→b<D+2→b<W1.heap.size∧¬Z b∧¬(Own ψ (hA m []).get b∨Own ψ (hU x d).get b):=fun b h1 h2 =>⟨by omega,(fresh gA (by omega)).1,fun h=>h.elim (fresh gA (by omega)).2 (fresh gU (by omega)).2⟩;have fl1:gF (·=D+1) Z (fun b=>Own ψ (hA m []).get b∨Own ψ (hU x d).get b) W1:=fun b hb=>fl0 b (by omega) (by omega);have hlen:([]:List ab).length+(bh d x).length≤fz:=by have:=DL d x;unfold fz;simp;omega
 have it:=Us (k-1) wf hx gA1 gU1 (up fUA) (by rw[iF,hD];have:=s.wk.size;omega) sl1 (rx.less (fun _ h=>h) XN fun j hj=>⟨hj,rfl⟩) (rd.less (fun _ h=>h) XN fun j hj=>⟨hj,rfl⟩) hL1 fl1 hlen;refine⟨D+1,[SQ D],W1,{ target:=.fn (.func 254) #[px,pd],args:=#[.func (.yield (D+1)) #[] #[]] },W1,254,#[.func (.yield (D+1)) #[] #[],px,pd],W1,?_,?_,fun _ _=>trivial,?_,fun h=>(by cases h),?_⟩
 ·rw[Bv,hD];exact run_enterLoop_outer _ _ _ _ _
 ·rw[tK];have zU:a0.eval (.tmp 22)=.func (.func 254) #[] #[px,pd]:=hv;simp only[Go.resolve,zU];simp[go_sem]
 ·show(callFunc 254 (#[.func (.yield (D+1)) #[] #[]]++#[px,pd])).run _ _=_;have hc:JY [(254,NM)]=true:=by kernel_rfl
  exact iR (yZ hc (g:=NM) (f:=254) (by simp)) _
 refine it.mono ?_;rintro e W2 ⟨⟨v,rfl⟩,Z2,dN,NP⟩;refine⟨none,_,run_endLoop NP.hl (by simp[mX]),rfl,?_⟩;have tA:∀{X},gF X Z (fun b=>Own ψ (hA m []).get b∨Own ψ (hU x d).get b) W1→gF X Z2 (Own dN (hA (tell m (bh d x)) ([]++bh d x)).get) W2:=fun {X} f=>NP.tr.Is f;rw[List.nil_append]at NP;have fC1:gF (Own ψ (hC d out l).get) Z (fun b=>Own ψ (hA m []).get b∨Own ψ (hU x d).get b) W1:=fun b hb=>⟨(up fCA b hb).1,(up fCA b hb).2.1,fun h=>h.elim (fCA b hb).2.2 (fCU b hb).2.2⟩;have cD:∀b,Own ψ (hC d out l).get b→b<D:=fun b hb=>by rw[hD];exact gC.bM hb
 have zD:∀b,Z b→b<D:=fun b hb=>by rw[hD];exact hg.ju b hb
 have gA2:=NP.gA;have gC2:Good Z2 ψ (hC d out l).get W2 w0.heap.size Ct:=NP.tr.part (fun b hb h=>h.elim (gA.zA b hb).2 (gU.zA b hb).2) gC1 fC1 (fun b hb e=>by rcases hb with hb|hb;have:=zD b hb;omega;have:=cD b hb;omega) gA2.ju;have apC:gF (Own ψ (hC d out l).get) Z2 (Own dN (hA (tell m (bh d x)) (bh d x)).get) W2:=NP.tr.Is fC1;have Oa:gF (·=D+1) Z2 (Own dN (hA (tell m (bh d x)) (bh d x)).get) W2:=NP.tr.Is fl1;have flC:gF (·=D+1) Z2 (Own ψ (hC d out l).get) W2:=fun b hb=>⟨(Oa b hb).1,(Oa b hb).2.1,fun h=>by have:=cD b h;have hb:b=D+1:=hb;omega⟩;have gA3:=gA2.putObj (o':=.loop { mX .ready fn a0.tmps D with state:=.exhausted }) Oa;have gC3:=gC2.putObj (o':=.loop { mX .ready fn a0.tmps D with state:=.exhausted }) flC;obtain⟨W3,VW⟩:∃W3,W3=W2.putObj (D+1) (.loop { mX .ready fn a0.tmps D with state:=.exhausted }):=⟨_,rfl⟩;rw[←VW]at gA3 gC3 ⊢;have sm3:cp Z2 W2 W3:=by rw[VW];exact mE Oa
 have acq:W3.heap.size=W2.heap.size:=by rw[VW];simp
 have dis:∀j,(hA (tell m (bh d x)) (bh d x)).get j≠none→(hC d out l).get j=none:=fun j hj=>FC fun e=>by have:=Cc hj;have:=Cd e;omega
 have apJ:∀q,Own dN (hA (tell m (bh d x)) (bh d x)).get q→¬Own ψ (hC d out l).get q:=fun q h1 h2=>(apC q h2).2.2 h1;have gJ:=gA3.join gC3 dis apJ (fun j ty cs hj=>by
  have e:=Cc (show(hA (tell m (bh d x)) (bh d x)).get j≠none by rw[hj];simp);rcases e with rfl|rfl|rfl|rfl
  ·cases hj
   show ax _ [.bF 9000];simp only[ax,aE];exact⟨fun k=>(by cases k),trivial⟩
  ·cases hj
  ·cases hj
   show ax _ [.bF 9016];simp only[ax,aE];exact⟨fun k=>(by cases k),trivial⟩
  ·cases hj) (fun j ty cs hj=>by
  have e:=Cd (show(hC d out l).get j≠none by rw[hj];simp);rcases e with rfl|rfl|rfl
  ·cases hj;exact qQ d _
  ·cases hj
  ·cases hj)
 have ahV:∀b,Own (o5 (hA (tell m (bh d x)) (bh d x)).get dN ψ) (hA (tell m (bh d x)) (bh d x)++hC d out l).get b→Own dN (hA (tell m (bh d x)) (bh d x)).get b∨Own ψ (hC d out l).get b:=fun b ⟨j,h1,h2⟩=>by
  by_cases e:(hA (tell m (bh d x)) (bh d x)).get j=none
  ·rw[rR e]at h1;rw[n3 e]at h2;exact .inr ⟨j,h1,h2⟩
  ·rw[nY e]at h2;exact .inl ⟨j,e,h2⟩
 refine⟨a0,Z2,o5 (hA (tell m (bh d x)) (bh d x)).get dN ψ,?_,?_,?_,?_,?_,?_,?_⟩
 ·show({ kG (Ds.map SQ) a0 with defers:=[SQ D]++(kG (Ds.map SQ) a0).defers }:Act)=kG ((W.heap.size::Ds).map SQ) a0;unfold kG;rw[ht.defers,←hD];rfl
 ·have o1:∀q,(Own ψ (hA m []).get q∨Own ψ (hU x d).get q)→w0.heap.size≤q∨Ct q:=fun q h=>h.elim (gA.from q) (gU.from q);have w1:Wk Z0 w0 Ct Z W1:=s.wk.step (A:=fun q=>Own ψ (hA m []).get q∨Own ψ (hU x d).get q) (B:=fun q=>Own ψ (hA m []).get q∨Own ψ (hU x d).get q) (L:=Ct) (Tr.cI (by rw[Bv];rfl) (by rw[Bv];rfl) (by rw[Bv];rfl) (by rw[iF,hD];omega) fun b hb _=>cK b hb) o1 fun _ h=>h.elim;have hDl:∀b,b=D+1→w0.heap.size≤b:=fun b hb=>by have:=s.wk.size;omega
  have w2:=w1.step NP.tr o1 hDl;rw[VW];exact w2.step wX gA2.from hDl
 ·exact gJ
 ·have q1:∀{j},(j=20000∨j=20001)→(hA (tell m (bh d x)) (bh d x)).get j≠none:=fun {j} hj=>by rcases hj with rfl|rfl<;>(intro k;cases k)
  have rA:∀{j u},(j=20000∨j=20001)→av Z2 dN (hA (tell m (bh d x)) (bh d x)).get W2 (.ref j 0 0 0) u→av Z2 (o5 (hA (tell m (bh d x)) (bh d x)).get dN ψ) (hA (tell m (bh d x)) (bh d x)++hC d out l).get W3 (.ref j 0 0 0) u:=fun {j u} hj hr =>Fx (fun _ h=>h) hr fun _=>⟨q1 hj,nY (q1 hj)⟩;have cN:∀{j},(j=20004∨j=31000∨j=31001)→(hA m []++(hU x d++hC d out l)).get j≠none∧o5 (hA (tell m (bh d x)) (bh d x)).get dN ψ j=ψ j:=fun {j} hj=>by
   have e1:(hC d out l).get j≠none:=by rcases hj with rfl|rfl|rfl<;>(intro k;cases k)
   obtain⟨o,ho⟩:=ade.1 e1;exact⟨by rw[sC _ _ ho];simp,n3 (nA (by omega) _ _)⟩
  refine eE (fun p hp=>?_) ht.size ht.defers;have hp:p∈[(12,AV.int .i64 n),(13,AV.int .i64 i),(4,AV.ref 20000 0 0 0),(7,AV.ref 20001 0 0 0),(1,AV.ref 20004 0 0 0),(3,AV.bF 31000),(11,AV.bF 31001)]:=hp;simp only[List.mem_cons,List.not_mem_nil,or_false]at hp;rcases hp with rfl|rfl|rfl|rfl|rfl|rfl|rfl
  ·exact ht.rep 12
  ·exact ht.rep 13
  ·exact rA (.inl rfl) NP.s.t4
  ·exact rA (.inr rfl) NP.s.t7
  ·exact Fx (fun b hb=>NP.tr.fC b hb) (ht.rep 1) fun _=>cN (.inl rfl)
  ·exact zm (ht.rep 3) fun _=>cN (.inr (.inl rfl))
  ·exact zm (ht.rep 11) fun _=>cN (.inr (.inr rfl))
 ·refine adf.2 ⟨fun hm=>?_,s.nd⟩;have:=(CG _ hm).1;omega
 ·have keep:∀b,b<D+1→b<W1.heap.size→¬(Own ψ (hA m []).get b∨Own ψ (hU x d).get b)→W3.heap[b]? = W1.heap[b]? := fun b h1 h2 h3=>by rw[VW,World.putObj_heap_other (by omega)];exact NP.tr.block b h2 h3 (by omega)
  intro q hq;rcases acn.1 hq with rfl|hq
  ·refine⟨?_,s.wk.size⟩;rw[←hD];exact(keep D (by omega) (by omega) (fl0 D (by omega) (by omega)).2.2).trans hD1
  ·have h0:=CG q hq;refine⟨?_,(s.m q hq).2⟩;have own:∀{hp:Heap},(∀j o,hp.get j=some o→(hA m []++(hU x d++hC d out l)).get j=some o)→¬Own ψ hp.get q:=fun {hp} hs ⟨j,h1,h2⟩=>h0.2.2 ⟨j,(by obtain⟨o,ho⟩:=ade.1 h1;rw[hs _ _ ho];simp),h2⟩;rw[keep q (by omega) (by omega) (fun h=>h.elim (own sA) (own sU)),cK q h0.1];exact(s.m q hq).1
 ·intro q hq;have base:q<W1.heap.size∧¬Z q∧¬(Own ψ (hA m []).get q∨Own ψ (hU x d).get q)∧¬Own ψ (hC d out l).get q:=by
   rcases acn.1 hq with rfl|hq
   ·have h1:=fl0 W.heap.size (by omega) (by omega);exact⟨h1.1,h1.2.1,h1.2.2,fun h=>by have:=cD _ h;omega⟩
   ·have h0:=CG q hq;have own:∀{hp:Heap},(∀j o,hp.get j=some o→(hA m []++(hU x d++hC d out l)).get j=some o)→¬Own ψ hp.get q:=fun {hp} hs ⟨j,h1,h2⟩=>h0.2.2 ⟨j,(by obtain⟨o,ho⟩:=ade.1 h1;rw[hs _ _ ho];simp),h2⟩;exact⟨by omega,h0.2.1,fun h=>h.elim (own sA) (own sU),own sC⟩
  have h2:=NP.tr.Is (X:=(·=q)) (fun b hb=>by have hb:b=q:=hb;subst hb;exact⟨base.1,base.2.1,base.2.2.1⟩) q rfl;exact⟨by rw[acq];exact h2.1,h2.2.1,fun h=>(ahV q h).elim h2.2.2 base.2.2.2⟩
end Go.Vs
namespace Go.Vs
open Go.Proofs Go.Cy
variable {Z Z' Z0:Nat→Prop} {ψ ψ' ψ0 sP zj:Nat→Value} {h h':Hp} {w w' w0:World} {B0:Nat} {O N:Nat→Prop}
theorem wZ{β α:Type}[DecidableEq β]{x z:β}{v:α}:∀{es:List (β×α)} {i:Nat},(es.findIdx? fun e=>decide (e.1=x))=some i→fk z (es.set i (x,v))=if x=z then some v else fk z es
 |[],i,h=>by simp at h
 |e::r,i,h=>by
  rw[List.findIdx?_cons]at h;by_cases he:e.1=x
  ·rw[if_pos (decide_eq_true he)]at h
   cases h
   rw[List.set_cons_zero,fk,fk];show(if x=z then some v else fk z r)=_;rw[he];by_cases k:x=z
   ·rw[if_pos k,if_pos k]
   ·rw[if_neg k,if_neg k,if_neg k]
  ·rw[if_neg (by simpa using he)]at h;obtain⟨j,hj,rfl⟩:=ads.1 h;have ih:=wZ (z:=z) (v:=v) hj;rw[List.set_cons_succ,fk,fk,ih];by_cases k:e.1=z
   ·rw[if_pos k,if_neg (fun q=>he (k.trans q.symm)),if_pos k]
   ·rw[if_neg k,if_neg k]
theorem w4{β α:Type}[DecidableEq β]{x z:β}{v:α}:∀{es:List (β×α)},(es.findIdx? fun e=>decide (e.1=x))=none→fk z (es++[(x,v)])=if x=z then some v else fk z es
 |[],_=>rfl
 |e::r,h=>by
  rw[List.findIdx?_eq_none_iff]at h;have he:e.1≠x:=by have:=h e ac9;simpa using this
  have ih:=w4 (z:=z) (v:=v) (es:=r) (List.findIdx?_eq_none_iff.2 fun q hq=>h q (acm _ hq));rw[List.cons_append,fk,fk,ih];by_cases k:e.1=z
  ·rw[if_pos k,if_neg (fun q=>he (k.trans q.symm)),if_pos k]
  ·rw[if_neg k,if_neg k]
theorem NQ{α:Type}(x z:ab)(v:α)(es:List (ab×α)):fk z (l8 bm x v es)=if x=z then some v else fk z es:=by
 have e:=Kr x es;unfold l8
 split
 ·rename_i i hi;exact wZ (e.symm.trans hi)
 ·rename_i hi;exact w4 (e.symm.trans hi)
def D9(m:Tm)(T:List ab):Prop:=∀z,(fk z m).getD false=decide (z∈T)
theorem D9.tell{m:Tm}{T:List ab}(h:D9 m T)(l:List ab):D9 (tell m l) (T++l):=by
 induction l generalizing m T with
 |nil=>rw[List.append_nil];exact h
 |cons y r ih =>
  have h1:D9 (n8 m y) (T++[y]):=fun z=>by
   unfold n8;rw[NQ];by_cases k:y=z
   ·subst k;simp
   ·rw[if_neg k,h z];have:(z∈T++[y])↔z∈T:=by simp[Ne.symm k]
    rw[Bool.eq_iff_iff];simp[Ne.symm k]
  have:=ih h1;rw[List.append_assoc]at this;exact this
theorem R1{m:Tm}{T:List ab}(h:D9 m T)(y:ab):(iJ bm (y.1,y.2) m).getD false=decide (y∈T):=by have:=RQ y m;show(iJ bm y m).getD false=_;rw[this];exact h y
abbrev x0(n i:Int)(m:Tm)(d:aj)(out:List (List ab))(l:List ab):S0.T:=((n,(i,())),(((m,()),((d,()),())),(out,(l,()))))
theorem LP{Ds:List Nat}{sh:Shape}{x:sh.T}{a:Act}{W:World}(s:Ms Z0 w0 Ds sh x a W){i:Nat}{b:Bool}(e:look (an sh x).tmps i=.bool b):a.eval (.tmp i)=.bool b:=by obtain⟨a0,Z,ψ,s⟩:=s;have:=s.t.rep i;rw[e]at this;rw[s.e,tK];exact this
theorem vC{n:Nat}{fn:Func}{tmps:Array Value}{R:Ending→World→Prop}:∀(Ds:List Nat) (W:World),Ds.Nodup→(∀D,D∈Ds→W.heap[D]? = some (.deferred (some []))) →(∀W',W'.os=W.os→W'.tape=W.tape→W'.output=W.output→W'.heap.size=W.heap.size→(∀b,b∉Ds→W'.heap[b]? = W.heap[b]?)→∃v,(results fn tmps).run Tryz.prog W'=.ok v W'∧R (.returned v) W') → LeavesInM (FW none) n Tryz.prog fn tmps R (Ds.map SQ) .returning W
 |[],W,_,_,h=>h W rfl rfl rfl rfl fun _ _=>rfl
 |D::Ds,W,hn,hd,h=>by
  obtain⟨h1,h2⟩:=adf.1 hn;refine⟨by simp,.inl ⟨D,_,rfl,run_takeDeferred (hd D ac9),?_⟩⟩;refine vC Ds _ h2 (fun E hE=>?_) fun W' e1 e2 e3 e4 e5=>?_
  ·rw[World.putObj_heap_other (fun e:E=D=>h1 (by rw[←e];exact hE))];exact hd E (acm _ hE)
  ·refine h W' e1 e2 e3 (e4.trans (by simp)) fun b hb=>?_;rw[e5 b (fun k=>hb (List.mem_cons_of_mem _ k))];exact World.putObj_heap_other fun e:b=D=>hb (by rw[e];exact ac9)
abbrev SN:Shape:=⟨[(0,dQ)],[],[],[]⟩
theorem NR{d:aj}(wf:Wf d):Dc Tryz.prog 240 xQ ((d,()),()) ((cO d,()),()):=by
 intro Z ψ0 w jY hg hr;have hr:ak Z ψ0 (Heap.get []) w [cc dQ d] jY:=hr;have hg:Good Z ψ0 (Heap.get []) w w.heap.size (Own ψ0 (Heap.get [])):=hg;have Cf:∀b,¬Own ψ0 (Heap.get []) b:=fun b ⟨i,h1,_⟩=>h1 rfl;simp only[ak]at hr;obtain⟨u0,_,rfl,hu,rfl⟩:=hr;refine vB (r:=none) (n:=5) (callsIn_of_wp_marks Tryz.func240 Up trivial ?_ rfl);obtain⟨zk,Ix⟩:∃t:Array Value,t=#[u0]++Array.replicate (Tryz.f240.ntmps-(#[u0]:Array Value).size) undef:=⟨_,rfl⟩;show Code.wpIn _ _ _ _ _ { tmps:=#[u0]++Array.replicate (Tryz.f240.ntmps-(#[u0]:Array Value).size) undef,defers:=[] } w;rw[←Ix];have XJ:zk.size=36:=by rw[Ix,Tryz.ntmps240];simp
 have e0:zk.getD 0 undef=u0:=by rw[Ix];simp
 have ms0:MsX Z w [] SN ((d,()),((),())) { tmps:=zk,defers:=[] } w { tmps:=zk,defers:=[] } Z ψ0:=by refine⟨rfl,Wk.start Z w Ct,hg.RU fun b h _=>(Cf b h).elim,eE (fun p hp=>?_) XJ rfl,List.nodup_nil,fun D hD=>(by cases hD),fun D hD=>(by cases hD)⟩;have hp:p∈[(0,cc dQ d)]:=hp;simp only[List.mem_cons,List.not_mem_nil,or_false]at hp;subst hp;show av _ _ _ _ _ (zk.getD 0 undef);rw[e0];exact hu
 have ahW:F1 249 uL ((d,()),())=some ((ep d.2,()),()):=RV rfl (ab4 hg0 d wf.sm);have hn:=(ahC F1 d).trans (aa ahW rfl);refine wpIn_seq (wpIn_mono (FA hn 5 ms0) ?_);rintro e a1 W1 ⟨rfl,a2,rfl,_,ia,Z1,m0,q1,Ur,t1⟩;refine wpIn_seq (wpIn_mono (dK o6 q1 none 5 _ Ur t1) ?_);rintro e a3 W3 ⟨rfl,a4,rfl,_,st2,Z2,dN,q2,Cs,t2⟩;refine wpIn_seq (wpIn_mono (dK o6 q2 none 5 _ Cs t2) ?_);rintro e a5 W5 ⟨rfl,a6,rfl,_,st3,Z3,OV,q3,Ut,t3⟩;refine wpIn_seq (wpIn_seq (wpIn_mono (dK o6 q3 none 5 _ Ut t3) ?_));rintro e a7 W7 ⟨rfl,a8,rfl,_,st4,Z4,Al,q4,XF,t4⟩;have ms:=KA ms0 q4 XF t4;clear q1 q2 q3 q4 Ur Cs Ut XF t1 t2 t3 t4;obtain⟨l,hl⟩:∃l,l=ep d.2:=⟨_,rfl⟩;rw[←hl]at ms;have hll:l.length≤80:=by rw[hl,lT];have:=wf.ne;omega
 have iU:∀y,y∈l→y∈ar d.1:=fun y hy=>by rw[hl,kV]at hy;exact wf.pd.mem_iff.2 hy
 refine wpIn_block ?_;refine Fz (fun k a W=>∃(i:Nat) (m:Tm) (out:List (List ab)) (T:List ab) (Ds:List Nat),i≤l.length∧k=l.length-i∧out.length≤i∧Ms Z w Ds S0 (x0 ((l.length:Nat):Int) (i:Int) m d out l) a W∧g6 d (l.drop i) out T=cO d∧D9 m T) (k:=l.length) ⟨0,[],[],[],[],adD _,rfl,adg _,ms,by rw[List.drop_zero,hl];rfl,fun z=>by simp[fk]⟩ ?_;rintro k a W ⟨i,m,out,T,Ds,hi,rfl,ho,ms,IQ,ht⟩;refine wpIn_seq (wpIn_mono (Cb (n4 F1 ((l.length:Nat):Int) (i:Int) _) 5 ms) ?_);rintro e a1 W1 ⟨rfl,ms1⟩;have U7:=LP ms1 (i:=14) rfl;by_cases aF:i<l.length
 case neg =>
  have e:i=l.length:=by omega
  have ef:decide ((i:Int)<((l.length:Nat):Int))=false:=decide_eq_false (by omega);rw[ef]at U7;refine wpIn_seq (wpIn_cond_false U7 (wpIn_exit ?_));show Code.wpIn _ _ _ _ _ _ _;refine wpIn_seq (wpIn_mono (Cb (n14 F1 _ _ _ m d out l) 5 ms1) ?_);rintro e a2 W2 ⟨rfl,ms2⟩;refine wpIn_ret ?_;obtain⟨a0,Z2,dN,s⟩:=ms2;rw[e,List.drop_eq_nil_of_le (Nat.le_refl _)]at IQ;have IQ:out=cO d:=IQ;rw[s.e];show LeavesInM _ _ _ _ a0.tmps _ (a0.defers++Ds.map SQ) .returning W2;rw[s.t.defers,List.nil_append];refine vC Ds W2 s.nd (fun D hD=>(s.m D hD).1) fun W3 e1 e2 e3 e4 e5=>?_;have uH:Tryz.f240.results=#[.tmp 2]:=by kernel_rfl
  have nZ:∀b,Z2 b∨Own dN (an SE ((),((),(out,())))).heap.get b→b∉Ds:=fun b hb hD=>by have:=s.fr b hD;exact hb.elim this.2.1 this.2.2
  have g3:Good Z2 dN (an SE ((),((),(out,())))).heap.get W3 w.heap.size Ct:=s.g.same (fun _ h=>h) (fun b hb=>e5 b (nZ b hb)) (fun b hb hz=>(s.g.zA b hz).2 hb) fun b hb=>by rw[e4];exact s.g.ju b hb
  have k3:Wk Z w Ct Z2 W3:=⟨s.wk.fC,s.wk.dY,e1.trans s.wk.os,e2.trans s.wk.tape,e3.trans s.wk.output,by rw[e4];exact s.wk.size,fun b hb ho=>by rw[e5 b (fun hD=>by have:=(s.m b hD).2;omega)];exact s.wk.block b hb ho⟩;refine⟨_,results_tmp uH _ _ _,_,Z2,dN,rfl,k3.fC,fun b hb=>?_,⟨k3.os,k3.tape,k3.output,k3.size,fun b hb _=>k3.block b hb fun h=>h⟩,?_,fun i hi=>(by cases hi),?_⟩
  ·rcases k3.dY b hb with h|h|h
   ·exact .inl h
   ·exact h.elim
   ·exact .inr (.inr h)
  ·rw[IQ]at g3;exact g3.RU fun b _ hb=>hb.elim .inl fun h=>h.elim
  ·have r2:=s.t.rep 2;have:av Z2 dN (an SE ((),((),(out,())))).heap.get W2 (.bF 3000) (a0.tmps.getD 2 undef):=r2;rw[IQ]at this;simp only[av]at this;show av Z2 dN _ W3 (.bF 3000) _;simp only[av];exact this
 have et:decide ((i:Int)<((l.length:Nat):Int))=true:=aX aF;rw[et]at U7;refine wpIn_seq (wpIn_cond_true U7 (wpIn_skip ?_));refine wpIn_seq (wpIn_block (wpIn_seq ?_));have hy:=iU l[i] (adr aF);have h5:=(n5 F1 (decide ((i:Int)<((l.length:Nat):Int))) ((l.length:Nat):Int) (i:Int) m d out l).trans (ae (db (eQ i) (aX aF)) (aa (a:=l[i]) (by rw[Int.toNat_natCast];exact aci aF) rfl));refine wpIn_mono (LO h5 5 ms1) ?_;rintro e a2 W2 ⟨rfl,hc⟩;refine wpIn_seq (wpIn_seq (wpIn_mono hc ?_));rintro e a3 W3 ⟨rfl,ms3⟩;have YC:=LP ms3 (i:=19) rfl;rw[R1 ht]at YC;have LB:l.drop i=l[i]::l.drop (i+1):=adu aF;rw[LB,g6]at IQ;by_cases hT:l[i]∈T
 ·rw[if_pos hT]at IQ;refine wpIn_cond_true (YC.trans (congrArg Value.bool (decide_eq_true hT))) (wpIn_exit ?_);show Code.wpIn _ _ _ _ _ _ _;refine wpIn_mono (Cb (ahD F1 _ _ _ m d l[i] out l) 5 ms3) ?_;rintro e a4 W4 ⟨rfl,ms4⟩;have ew:=aG aF (by omega);rw[ew]at ms4;exact⟨l.length-(i+1),by omega,i+1,m,out,T,Ds,by omega,rfl,by omega,ms4,IQ,ht⟩
 rw[if_neg hT]at IQ;refine wpIn_cond_false (YC.trans (congrArg Value.bool (decide_eq_false hT))) (wpIn_skip ?_);refine wpIn_seq (wpIn_mono (LO (n7 F1 _ _ _ m d l[i] out l) 5 ms3) ?_);rintro e a4 W4 ⟨rfl,hc⟩;refine wpIn_seq (wpIn_seq (wpIn_mono hc ?_));rintro e a5 W5 ⟨rfl,ms5⟩;refine wpIn_block (wpIn_mono (RZ 5 wf hy ms5) ?_);rintro e a6 W6 ⟨rfl,ms6⟩;have IP:=(n12 F1 ((l.length:Nat):Int) (i:Int) (tell m (bh d l[i])) (bh d l[i]) d out l).trans (ae (fits (by omega)) rfl);refine wpIn_mono (Cb IP 5 ms6) ?_;rintro e a7 W7 ⟨rfl,ms7⟩;refine wpIn_mono (Cb (n13 F1 _ _ _) 5 ms7) ?_;rintro e a8 W8 ⟨rfl,ms8⟩;have ew:=aG aF (by omega);rw[ew]at ms8;exact⟨l.length-(i+1),by omega,i+1,_,_,_,_,by omega,rfl,by simp;omega,ms8,IQ,ht.tell _⟩
end Go.Vs
