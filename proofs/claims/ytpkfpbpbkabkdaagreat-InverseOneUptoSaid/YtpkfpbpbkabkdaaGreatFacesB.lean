/- The walk of the function that -/
import Derived.Test.YtpkfpbpbkabkdaaGreatFacesA
set_option linter.unusedSimpArgs false
set_option linter.unusedVariables false
namespace Go.Vs
open Go.Proofs Go.Cy
variable {Z Z' Z0:Nat→Prop} {ψ ψ' ψ0 tJ Ay:Nat→Value} {h h':Hp} {w w' w0:World} {B0:Nat} {O N:Nat→Prop}
theorem JE{p:Nat→Prop}(h:∃n,p n):∃n,p n∧∀m,m<n→¬p m:=by
 obtain⟨n,hn⟩:=h
 induction n using Nat.strongRecOn with
 |_ n ih =>
  by_cases k:∃m,m<n∧p m
  ·obtain⟨m,h1,h2⟩:=k;exact ih m h1 h2
  ·exact⟨n,hn,fun m h1 h2=>k ⟨m,h1,h2⟩⟩
open Classical in
noncomputable def least(p:Nat→Prop):Nat:=if h:∃n,p n then Classical.choose (JE h) else 0
theorem Db{p:Nat→Prop}(h:∃n,p n):p (least p)∧∀m,p m→least p≤m:=by unfold least;rw[dif_pos h];obtain⟨h1,h2⟩:=Classical.choose_spec (JE h);exact⟨h1,fun m hm=>Classical.byContradiction fun k=>h2 m (by omega) hm⟩
theorem GQ{F:Fence}{n:Nat}{P:Program}{c:Code}{Q:Exit→Act→World→Prop}(I:Nat→Act→World→Prop){k:Nat}{a:Act}{w:World}(h0:I k a w) (round:∀k a w,I k a w→c.wpIn F n P (Exit.then (fun a' w'=>∃k',k'<k∧I k' a' w') Q) a w):(Code.loop c).wpIn F n P Q a w:=by
 refine wpIn_loop (fun a w=>∃k,I k a w) (fun a w=>least fun k=>I k a w) ⟨k,h0⟩ fun a w hI=>?_;obtain⟨h1,_⟩:=Db hI;refine wpIn_mono (round _ a w h1) fun e a' w' hq=>?_
 cases e with
 |normal=>obtain⟨k',h2,h3⟩:=hq;exact⟨⟨k',h3⟩,Nat.lt_of_le_of_lt ((Db ⟨k',h3⟩).2 k' h3) h2⟩
 |_=>exact hq
abbrev hU(x:ae)(d:aj):Heap:=(ar U0 ((),(((x,()),((d,()),())),()))).heap
abbrev hB(x:ae)(d:aj)(y:ae):Heap:=(ar U1 ((true,()),(((x,()),((d,()),((y,()),()))),()))).heap
def oZ(m:Tm)(y:ae):Tm:=mK br y true m
def tell(m:Tm)(l:List ae):Tm:=l.foldl oZ m
theorem Pk(m:Tm)(l:List ae)(y:ae):tell m (l++[y])=oZ (tell m l) y:=by simp[tell]
structure Bt(W1:World)(Z1:Nat→Prop)(OA OB:Nat→Prop)(B0:Nat)(O:Nat→Prop)(l:Nat)(rc:Loop)(tm:Array Value)(m:Tm)(f:List ae)(x:ae)(d:aj)(y:ae)(Z:Nat→Prop)(tJ Ay:Nat→Value)(a:Act)(W:World):Prop where
 gA:Good Z tJ (hA m f).get W B0 O
 gB:Good Z Ay (hB x d y).get W B0 O
 ap:gZ (Own Ay (hB x d y).get) Z (Own tJ (hA m f).get) W
 s:Sl tm Z tJ (hA m f).get W
 hl:W.heap[l]? = some (.loop rc)
 fl:gZ (·=l) Z (fun b=>Own tJ (hA m f).get b∨Own Ay (hB x d y).get b) W
 tr:Tr (·=l) Z1 (fun b=>OA b∨OB b) W1 Z (fun b=>Own tJ (hA m f).get b∨Own Ay (hB x d y).get b) W
 a0:a.tmps.getD 0 undef=.func (.yield l) #[] #[]
 b0:B0≤W.heap.size
theorem Za{W:World}{x y:ae}{d:aj}{v:Value}(g:Good Z Ay (hB x d y).get W B0 O)(hr:aC Z Ay (hB x d y).get W (.ref 20004 0 0 0) v):∃V,(Instr.loadAt 33 v).run Tryz.prog W=.ok V W∧∀ψ h,aC Z ψ h W (cq br y) V:=by have hb:(hB x d y).get 20004=some (.box 33 (enc br y)):=rfl;obtain⟨q,vs,e1,e2,e3,e4⟩:=g.box _ _ _ hb;simp only[aC]at hr;obtain⟨ad,rfl,h2⟩:=hr;have h3:=h2 (by rw[hb];simp);rw[e1]at h3;have h3:ad=⟨q,0,none⟩:=h3;subst h3;obtain⟨V,h4,h5⟩:=jQ (P:=Tryz.prog) (t:=33) (a:=⟨q,0,none⟩) (x:=cq br y) e3 (fun j u hu=>by rw[cT,Nat.zero_add];simp only[World.cell?,e2];simpa using hu) (by kernel_rfl);exact⟨V,h4,fun ψ h=>h5.move (p:=fun _=>False) (fun _ h=>h) (cz.refl _ _) (fun _ k=>k.elim) (ou _ br y)⟩
structure Itr(W1:World)(Z1:Nat→Prop)(OA OB:Nat→Prop)(B0:Nat)(O:Nat→Prop)(l:Nat)(rc:Loop)(tm:Array Value)(m:Tm)(f:List ae)(Z:Nat→Prop)(tJ:Nat→Value)(W:World):Prop where
 gA:Good Z tJ (hA m f).get W B0 O
 s:Sl tm Z tJ (hA m f).get W
 hl:W.heap[l]? = some (.loop rc)
 tr:Tr (·=l) Z1 (fun b=>OA b∨OB b) W1 Z (Own tJ (hA m f).get) W
theorem V8(n:Nat){W1:World}{m:Tm}{f:List ae}{x:ae}{d:aj}{l D:Nat}{fn:FuncId}{tm:Array Value}{px pd:Value}(wf:Wf d)(hx:x∈ax d.1) (gA:Good Z tJ (hA m f).get W1 B0 O) (gB:Good Z Ay (hU x d).get W1 B0 O) (ap:gZ (Own Ay (hU x d).get) Z (Own tJ (hA m f).get) W1) (hB0:B0≤W1.heap.size) (s:Sl tm Z tJ (hA m f).get W1) (rx:aC Z Ay (hU x d).get W1 (.ref 20002 0 0 0) px) (rd:aC Z Ay (hU x d).get W1 (.ref 20003 0 0 0) pd) (hl:W1.heap[l]? = some (.loop (nS .ready fn tm D))) (fl:gZ (·=l) Z (fun b=>Own tJ (hA m f).get b∨Own Ay (hU x d).get b) W1) (hf:f.length+(bu d x).length≤fk) :
  CallsIn (FW none) n Tryz.prog 254 #[.func (.yield l) #[] #[],px,pd] W1 fun e W'=>(∃v,e=.returned v)∧∃Z' ψ',Itr W1 Z (Own tJ (hA m f).get) (Own Ay (hU x d).get) B0 O l (nS .ready fn tm D) tm (tell m (bu d x)) (f++bu d x) Z' ψ' W':=by
 obtain⟨r0,htr,Ei,bE,hcy⟩:=C0 wf hx;refine callsIn_of_wp Tryz.func254 V6 trivial ?_ rfl;obtain⟨Az,JF⟩:∃t:Array Value,t=#[.func (.yield l) #[] #[],px,pd]++Array.replicate (Tryz.f254.ntmps-(#[.func (.yield l) #[] #[],px,pd]:Array Value).size) undef:=⟨_,rfl⟩;rw[←JF];have Zb:Az.size=23:=by rw[JF,Tryz.ntmps254];simp
 have e0:Az.getD 0 undef=.func (.yield l) #[] #[]:=by rw[JF];simp
 have e1:Az.getD 1 undef=px:=by rw[JF];simp
 have e2:Az.getD 2 undef=pd:=by rw[JF];simp
 have t0:cU Z Ay (hU x d).get W1 23 (look (ar U0 ((),(((x,()),((d,()),())),()))).tmps) { tmps:=Az,defers:=[] }:=by
  refine fb (fun p hp=>?_) Zb rfl;have hp:p∈[(1,AV.ref 20002 0 0 0),(2,AV.ref 20003 0 0 0)]:=hp;simp only[List.mem_cons,List.not_mem_nil,or_false]at hp;rcases hp with rfl|rfl
  ·show aC _ _ _ _ _ (Az.getD 1 undef);rw[e1];exact rx
  ·show aC _ _ _ _ _ (Az.getD 2 undef);rw[e2];exact rd
 have zA:∀b,Z b→¬Own tJ (hA m f).get b:=fun b hb=>(gA.zA b hb).2;have zl:∀b,Z b→¬b=l:=fun b hb e=>(fl l rfl).2.1 (e▸hb);refine wpIn_seq ?_;refine wpIn_mono (dX qm (u0 F1 x d) none n [] (Good.start gB) t0) ?_;rintro e a1 W2 ⟨rfl,a2,rfl,k1,iG,Z1,nW,Y6,V7,t1⟩;obtain⟨Z2,eg,Dz,t2⟩:=gu Y6 V7 t1;have gB2:Good Z2 eg (hB x d x).get W2 B0 O:=Dz.LK gB hB0;have XI:Tr (fun _=>False) Z (Own Ay (hU x d).get) W1 Z2 (Own eg (hB x d x).get) W2:=Dz.tr;have fA:gZ (Own tJ (hA m f).get) Z (Own Ay (hU x d).get) W1:=fun b hb=>⟨gA.bT hb,fun hz=>zA b hz hb,fun h2=>(ap b h2).2.2 hb⟩;have gA2:Good Z2 tJ (hA m f).get W2 B0 O:=XI.part (fun b hb=>(gB.zA b hb).2) gA fA (fun _ _ h=>h) gB2.jP;obtain⟨fA2,_⟩:=XI.free fA fun _ _ h=>h;have ap2:gZ (Own eg (hB x d x).get) Z2 (Own tJ (hA m f).get) W2:=fun b hb=>⟨gB2.bT hb,fun hz=>(gB2.zA b hz).2 hb,fun h2=>(fA2 b h2).2.2 hb⟩;have sm2:cz Z W1 W2:=XI.same gB.zA fun _ _ h=>h;have s2:Sl tm Z2 tJ (hA m f).get W2:=⟨s.n,s.t4.less Dz.fV sm2 fun i hi=>⟨hi,rfl⟩,s.t7.less Dz.fV sm2 fun i hi=>⟨hi,rfl⟩⟩;obtain⟨PT,wF⟩:=(XI.beside (Own tJ (hA m f).get)).free (X:=(·=l)) (fun b hb=>⟨(fl b hb).1,(fl b hb).2.1,fun h=>(fl b hb).2.2 h.symm⟩) fun _ _ h=>h;rw[dL];refine wpIn_block ?_;have start:Bt W1 Z (Own tJ (hA m f).get) (Own Ay (hU x d).get) B0 O l (nS .ready fn tm D) tm m f x d x Z2 tJ eg a2 W2 :=⟨gA2,gB2,ap2,s2,(wF l rfl).trans hl,fun b hb=>⟨(PT b hb).1,(PT b hb).2.1,fun h=>(PT b hb).2.2 h.symm⟩,(XI.beside (Own tJ (hA m f).get)).less (fun b h=>h.symm) (fun b h=>h.symm) (fun _ h=>h.elim),(k1 0 (by simp)).trans e0,adC hB0 XI.size⟩;refine GQ (fun k a W=>∃pre y rest Z' ajc adI b,bu d x=pre++y::rest∧k=rest.length∧Bt W1 Z (Own tJ (hA m f).get) (Own Ay (hU x d).get) B0 O l (nS .ready fn tm D) tm (tell m pre) (f++pre) x d y Z' ajc adI a W ∧ cU Z' adI (hB x d y).get W 23 (look (ar U1 ((b,()),(((x,()),((d,()),((y,()),()))),()))).tmps) a) (k:=r0.length) ⟨[],x,r0,Z2,tJ,eg,true,htr,rfl,by rw[List.append_nil];exact start,t2⟩ ?_;rintro k a W ⟨pre,y,rest,Z3,Qr,Bo,bb,mF,rfl,bt,t3⟩;have hy:y∈ax d.1:=bE y (by rw[←htr,mF];simp);have r4:aC Z3 Bo (hB x d y).get W (.ref 20004 0 0 0) (a.tmps.getD 4 undef):=t3.rep 4;obtain⟨V,hV,rV⟩:=Za bt.gB r4;have hlen:(f++pre).length+1≤fk:=by rw[mF]at hf;simp at hf ⊢;omega
 have rin:=TK (n-1) bt.gA bt.b0 bt.s (rV Qr _) hlen bt.hl (fun b hb=>⟨(bt.fl b hb).1,(bt.fl b hb).2.1,fun h=>(bt.fl b hb).2.2 (.inl h)⟩);have Dx:(Instr.yield l #[V]).run Tryz.prog W=.ok (.round l fn (tm.setIfInBounds 23 V) (r6 9) bd) W:=by have:=run_yield (P:=Tryz.prog) (args:=#[V]) bt.hl rfl;simpa[nS] using this
 refine wpIn_seq (wpIn_seq ?_);refine TL n t3.size bt.a0 hV Dx (rin.mono ?_);rintro e W4 ⟨rfl,Z4,M8,JG⟩;refine⟨.bool true,rfl,?_⟩;obtain⟨b,hb⟩:∃b,b=((a.put (some 7) (.func (.yield l) #[] #[])).put (some 8) V).put (some 9) (.bool true):=⟨_,rfl⟩;rw[←hb];have other:∀i,i≠7→i≠8→i≠9→b.tmps.getD i undef=a.tmps.getD i undef:=fun i h7 h8 h9=>by rw[hb,b7 _ _ (fun j hj=>by cases hj;exact h9),b7 _ _ (fun j hj=>by cases hj;exact h8),b7 _ _ (fun j hj=>by cases hj;exact h7)]
 have bsz:b.tmps.size=23:=by rw[hb,cC,cC,cC];exact t3.size
 have bdf:b.defers=[]:=by rw[hb,put_defers,put_defers,put_defers];exact t3.defers
 have b9:b.eval (.tmp 9)=.bool true:=by
  have:((a.put (some 7) (.func (.yield l) #[] #[])).put (some 8) V).tmps.size=23:=by rw[cC,cC];exact t3.size
  rw[hb];show(((a.put (some 7) (.func (.yield l) #[] #[])).put (some 8) V).put (some 9) (.bool true)).tmps.getD 9 undef=_;rw[ic (by omega),if_pos rfl]
 refine wpIn_cond_true b9 (wpIn_skip (wpIn_block (wpIn_seq ?_)));have z3l:∀q,Z3 q→¬q=l:=fun q hq e=>(bt.fl l rfl).2.1 (e▸hq);have bl:∀q,Own Bo (hB x d y).get q→¬q=l:=fun q hq e=>(bt.fl l rfl).2.2 (.inr (e▸hq));have gB4:Good Z4 Bo (hB x d y).get W4 B0 O:=JG.tr.part (fun q hq=>(bt.gA.zA q hq).2) bt.gB bt.ap (fun q hq=>hq.elim (z3l q) (bl q)) JG.g.jP;obtain⟨ap4,_⟩:=JG.tr.free bt.ap bl;have sm4:cz Z3 W W4:=JG.tr.same bt.gA.zA z3l;have t4:cU Z4 Bo (hB x d y).get W4 23 (look (ar U1 ((bb,()),(((x,()),((d,()),((y,()),()))),()))).tmps) b:=by
  have up:∀i v,i≠7→i≠8→i≠9→look (ar U1 ((bb,()),(((x,()),((d,()),((y,()),()))),()))).tmps i=v→aC Z4 Bo (hB x d y).get W4 v (b.tmps.getD i undef):=fun i v h7 h8 h9 e=>by rw[other i h7 h8 h9,←e];exact(t3.rep i).less JG.tr.fV sm4 fun j hj=>⟨hj,rfl⟩
  refine fb (fun p hp=>?_) bsz bdf;have hp:p∈[(5,AV.bool bb),(1,AV.ref 20002 0 0 0),(2,AV.ref 20003 0 0 0),(4,AV.ref 20004 0 0 0)]:=hp;simp only[List.mem_cons,List.not_mem_nil,or_false]at hp;rcases hp with rfl|rfl|rfl|rfl
  ·exact up 5 _ (by decide) (by decide) (by decide) rfl
  ·exact up 1 _ (by decide) (by decide) (by decide) rfl
  ·exact up 2 _ (by decide) (by decide) (by decide) rfl
  ·exact up 4 _ (by decide) (by decide) (by decide) rfl
 have hB4:B0≤W4.heap.size:=adC bt.b0 JG.tr.size;have ajd:F1 255 EA ((d,((y.1,y.2),())),())=some ((ph d y,(true,())),()):=by have:=TI rfl (ads hg0 d y wf);rw[Jm wf hy]at this;exact this
 have hn:=(u2 F1 bb x y d).trans (aa ajd rfl);have run:=dX qm hn none n [] (Good.start gB4) t4;rw[dL]at run;refine wpIn_mono run ?_;clear run;rintro e a5 W5 ⟨rfl,a6,rfl,k6,st6,Z6,ψ6,Y8,ok6,t6⟩;refine wpIn_seq ?_;refine wpIn_mono (dX qm Y8 none n [] ok6 t6) ?_;rintro e a7 W7 ⟨rfl,a8,rfl,k8,st8,Z8,ψ8,aje,ok8,t8⟩;obtain⟨Z9,ψ9,ok9,t9⟩:=gu aje ok8 t8;rw[dL];have gB9:Good Z9 ψ9 (hB x d (ph d y)).get W7 B0 O:=ok9.LK gB4 hB4;have tr9:Tr (fun _=>False) Z4 (Own Bo (hB x d y).get) W4 Z9 (Own ψ9 (hB x d (ph d y)).get) W7:=ok9.tr;have fA4:gZ (Own M8 (hA (oZ (tell m pre) y) (f++pre++[y])).get) Z4 (Own Bo (hB x d y).get) W4:=fun q hq=>⟨JG.g.bT hq,fun hz=>(JG.g.zA q hz).2 hq,fun h2=>(ap4 q h2).2.2 hq⟩;have gA9:Good Z9 M8 (hA (oZ (tell m pre) y) (f++pre++[y])).get W7 B0 O:=tr9.part (fun q hq=>(gB4.zA q hq).2) JG.g fA4 (fun _ _ h=>h) gB9.jP;obtain⟨fA9,_⟩:=tr9.free fA4 fun _ _ h=>h;have ap9:gZ (Own ψ9 (hB x d (ph d y)).get) Z9 (Own M8 (hA (oZ (tell m pre) y) (f++pre++[y])).get) W7:=fun q hq=>⟨gB9.bT hq,fun hz=>(gB9.zA q hz).2 hq,fun h2=>(fA9 q h2).2.2 hq⟩;have sm9:cz Z4 W4 W7:=tr9.same gB4.zA fun _ _ h=>h;have s9:Sl tm Z9 M8 (hA (oZ (tell m pre) y) (f++pre++[y])).get W7:=⟨JG.s.n,JG.s.t4.less ok9.fV sm9 fun i hi=>⟨hi,rfl⟩,JG.s.t7.less ok9.fV sm9 fun i hi=>⟨hi,rfl⟩⟩;have trB:Tr (·=l) Z1 (fun q=>Own tJ (hA m f).get q∨Own Ay (hU x d).get q) W1 Z1 (fun q=>Own tJ (hA m f).get q∨Own Ay (hU x d).get q) W1:=Tr.refl;have tr4:Tr (·=l) Z (fun q=>Own tJ (hA m f).get q∨Own Ay (hU x d).get q) W1 Z9 (fun q=>Own M8 (hA (oZ (tell m pre) y) (f++pre++[y])).get q∨Own ψ9 (hB x d (ph d y)).get q) W7 :=(bt.tr.trans (JG.tr.beside _)).trans ((tr9.beside (Own M8 (hA (oZ (tell m pre) y) (f++pre++[y])).get)).less (fun q h=>h.symm) (fun q h=>h.symm) (fun _ h=>h.elim));have fl4:gZ (·=l) Z4 (fun q=>Own M8 (hA (oZ (tell m pre) y) (f++pre++[y])).get q∨Own Bo (hB x d y).get q) W4:=fun q hq=>by
  have hq:q=l:=hq;subst hq;have h0:=bt.fl q rfl;refine⟨aeA h0.1 JG.tr.size,fun hz=>?_,fun ho=>?_⟩
  ·rcases JG.tr.eR q hz with e|e|e
   ·exact h0.2.1 e
   ·exact h0.2.2 (.inl e)
   ·have:=h0.1;omega
  ·rcases ho with ho|ho
   ·rcases JG.tr.own q ho with e|e
    ·exact h0.2.2 (.inl e)
    ·have:=h0.1;omega
   ·exact h0.2.2 (.inr ho)
 obtain⟨fl9,hl9⟩:=(tr9.beside (Own M8 (hA (oZ (tell m pre) y) (f++pre++[y])).get)).free (X:=(·=l)) (fun q hq=>⟨(fl4 q hq).1,(fl4 q hq).2.1,fun h=>(fl4 q hq).2.2 h.symm⟩) fun _ _ h=>h;have a8z:a8.tmps.getD 0 undef=.func (.yield l) #[] #[]:=(k8 0 (by simp)).trans ((k6 0 (by simp)).trans ((other 0 (by decide) (by decide) (by decide)).trans bt.a0));have adM:W7.heap[l]? = some (.loop (nS .ready fn tm D)):=(hl9 l rfl).trans JG.l;have Zd:a8.eval (.tmp 22)=.bool (((((ph d y).1.1==x.1.1)&&((ph d y).1.2==x.1.2))&&((ph d y).2==x.2))):=t9.rep 22;have adN:oZ (tell m pre) y=tell m (pre++[y]):=(Pk m pre y).symm;have aji:f++pre++[y]=f++(pre++[y]):=List.append_assoc _ _ _;rw[adN,aji]at gA9 ap9 s9 tr4 fl9;have hp:Path (ph d) (pre++y::rest) x:=by rw[←mF,htr];exact hcy
 have hpy:ph d y=rest.head?.getD x:=(Path.app.1 hp).2.1;rw[jF]at Zd
 cases rest with
 |nil =>
  have e:ph d y=x:=hpy;refine wpIn_cond_true (Zd.trans (congrArg Value.bool (decide_eq_true e))) (wpIn_ret ?_);have vu:(results Tryz.f254 a8.tmps).run Tryz.prog W7=.ok (.tuple #[]) W7:=by
   have hr:Tryz.f254.results=#[]:=by kernel_rfl
   exact results_none hr _ _ _
  refine⟨t9.defers,_,vu,⟨_,rfl⟩,Z9,M8,?_⟩;rw[mF];exact⟨gA9,s9,adM,tr4.less (fun _ h=>h) (fun q h=>.inl h) fun _ h=>h⟩
 |cons y' r =>
  have e:ph d y=y':=hpy;have bw:ph d y≠x:=fun k=>by
   rw[htr]at mF;have Ze:=Ei;rw[mF]at Ze;have h1:x∈pre++[y]:=by
    cases pre with
    |nil=>simp at mF;simp[mF.1]
    |cons q t=>simp at mF;simp[mF.1]
   rw[show pre++y::y'::r=(pre++[y])++y'::r by simp]at Ze;exact(aeB.1 Ze).2.2 x h1 y' acr (k.symm.trans e)
  refine wpIn_cond_false (Zd.trans (congrArg Value.bool (decide_eq_false bw))) (wpIn_skip ?_);rw[e]at gB9 ap9 tr4 fl9 t9;refine⟨r.length,by simp,pre++[y],y',r,Z9,M8,ψ9,true,by rw[mF];simp,rfl,⟨gA9,gB9,ap9,s9,adM,fun q hq=>⟨(fl9 q hq).1,(fl9 q hq).2.1,fun h=>(fl9 q hq).2.2 h.symm⟩,tr4,a8z,adC hB4 tr9.size⟩,?_⟩;refine fb (fun p hp=>?_) t9.size t9.defers;have hp:p∈[(5,AV.bool true),(1,AV.ref 20002 0 0 0),(2,AV.ref 20003 0 0 0),(4,AV.ref 20004 0 0 0)]:=hp;simp only[List.mem_cons,List.not_mem_nil,or_false]at hp;rcases hp with rfl|rfl|rfl|rfl
  ·exact t9.rep 5
  ·exact t9.rep 1
  ·exact t9.rep 2
  ·exact t9.rep 4
end Go.Vs
namespace Go.Vs
open Go.Proofs Go.Cy
variable {Z Z' Z0:Nat→Prop} {ψ ψ' ψ0 tJ Ay:Nat→Value} {h h':Hp} {w w' w0:World} {B0:Nat} {O N:Nat→Prop}
abbrev DA:Nat→Prop:=fun _=>False
def Uy(D:Nat):Deferred:={ target:=.collected D,args:=#[] }
structure MsX(Z0:Nat→Prop)(w0:World)(Ds:List Nat)(sh:Shape)(x:sh.T)(a:Act)(W:World)(a0:Act)(Z:Nat→Prop)(ψ:Nat→Value):Prop where
 e:a=la (Ds.map Uy) a0
 wk:Wk Z0 w0 DA Z W
 g:Good Z ψ (ar sh x).heap.get W w0.heap.size DA
 t:cU Z ψ (ar sh x).heap.get W 36 (look (ar sh x).tmps) a0
 nd:Ds.Nodup
 m:∀D,D∈Ds→W.heap[D]? = some (.deferred (some []))∧w0.heap.size≤D
 fr:gZ (·∈Ds) Z (Own ψ (ar sh x).heap.get) W
def Ms(Z0:Nat→Prop)(w0:World)(Ds:List Nat)(sh:Shape)(x:sh.T)(a:Act)(W:World):Prop:=∃a0 Z ψ,MsX Z0 w0 Ds sh x a W a0 Z ψ
variable {Ds:List Nat} {sh sh':Shape} {x:sh.T} {x':sh'.T} {a:Act} {W:World}
theorem GR{c:Code}{R:Type}{kk:St→Option R}{y:R}(hx:rn F1 36 [] c (ar sh x) kk=some y)(n:Nat){a0:Act}(s:MsX Z0 w0 Ds sh x a W a0 Z ψ) :
  c.wpIn (FW none) n Tryz.prog (Aft 36 [] (fun d=>a0.tmps.getD d undef) (Ds.map Uy) kk y Z W (Own ψ (ar sh x).heap.get) ψ) a W:=by
 rw[s.e];exact dX qm hx none n _ (Good.start s.g) s.t
theorem LN{st:St}{a1:Act}{W':World}(s:MsX Z0 w0 Ds sh x a W a1 Z ψ)(uW:cK sh' st=some x'){ψ':Nat→Value}{Z':Nat→Prop}{a2:Act}(ok:Ok Z W (Own ψ (ar sh x).heap.get) ψ Z' ψ' st.heap.get W')(t:cU Z' ψ' st.heap.get W' 36 (look st.tmps) a2):Ms Z0 w0 Ds sh' x' (la (Ds.map Uy) a2) W':=by obtain⟨Z2,eg,Dz,t2⟩:=gu uW ok t;obtain⟨f1,f2⟩:=(Dz.tr (L:=DA)).free s.fr fun _ _ h=>h;exact⟨a2,Z2,eg,rfl,s.wk.step (Dz.tr (L:=DA)) s.g.from (fun _ h=>h.elim),Dz.LK s.g s.wk.size,t2,s.nd,fun D hD=>⟨(f2 D hD).trans (s.m D hD).1,(s.m D hD).2⟩,f1⟩
theorem Dc{c:Code}(hx:rn F1 36 [] c (ar sh x) (cK sh')=some x')(n:Nat)(s:Ms Z0 w0 Ds sh x a W):c.wpIn (FW none) n Tryz.prog (fun e a' W'=>e=.normal∧Ms Z0 w0 Ds sh' x' a' W') a W:=by obtain⟨a0,Z,ψ,s⟩:=s;refine wpIn_mono (GR hx n s) ?_;rintro e a1 W1 ⟨rfl,a2,rfl,_,st,Z1,nW,uW,ok,t⟩;exact⟨rfl,LN s uW ok t⟩
theorem M9{c c':Code}(hx:(rn F1 36 [] c (ar sh x) fun st=>rn F1 36 [] c' st (cK sh'))=some x')(n:Nat)(s:Ms Z0 w0 Ds sh x a W) :
  c.wpIn (FW none) n Tryz.prog (fun e a' W'=>e=.normal∧c'.wpIn (FW none) n Tryz.prog (fun e a' W'=>e=.normal∧Ms Z0 w0 Ds sh' x' a' W') a' W') a W:=by
 obtain⟨a0,Z,ψ,s⟩:=s;refine wpIn_mono (GR hx n s) ?_;rintro e a1 W1 ⟨rfl,a2,rfl,_,st,Z1,nW,uW,ok,t⟩;refine⟨rfl,wpIn_mono (dX qm uW none n _ ok t) ?_⟩;rintro e a3 W3 ⟨rfl,a4,rfl,_,st3,Z3,Qr,Zg,V9,t3⟩;exact⟨rfl,LN s Zg V9 t3⟩
abbrev hC(d:aj)(out:List (List ae))(l:List ae):Heap:=[(20004,.box 41 (enc db d))]++qS rws ((out,(l,())):Ke (rws.map (·.2.2)))
theorem AA{i:Nat}{v:Value}(hr:aC Z ψ h w (.bK i) v)(hi:h' i≠none→h i≠none∧ψ' i=ψ i):aC Z' ψ' h' w' (.bK i) v:=by simp only[aC]at hr ⊢;exact⟨hr.1,fun k=>by obtain⟨k1,k2⟩:=hi k;rw[k2];exact hr.2 k1⟩
theorem Dd{m:Tm}{f:List ae}{i:Nat}(h:(hA m f).get i≠none):i=20000∨i=9000∨i=20001∨i=9016:=by
 have e:hA m f=[(20000,.box 224 [.bK 9000]),(9000,.own (.map br .bool) m),(20001,.box 50 [.bK 9016]),(9016,.own (.row 33 br) f)]:=rfl;rw[e]at h;simp only[Heap.get]at h;by_cases h1:20000=i
 ·exact .inl h1.symm
 by_cases h2:9000=i
 ·exact .inr (.inl h2.symm)
 by_cases h3:20001=i
 ·exact .inr (.inr (.inl h3.symm))
 by_cases h4:9016=i
 ·exact .inr (.inr (.inr h4.symm))
 rw[if_neg h1,if_neg h2,if_neg h3,if_neg h4]at h;exact absurd rfl h
theorem GS{x:ae}{d:aj}{i:Nat}(h:(hU x d).get i≠none):i=20002∨i=20003:=by
 have e:hU x d=[(20002,.box 33 (enc br x)),(20003,.box 41 (enc db d))]:=rfl;rw[e]at h;simp only[Heap.get]at h;by_cases h1:20002=i
 ·exact .inl h1.symm
 by_cases h2:20003=i
 ·exact .inr h2.symm
 rw[if_neg h1,if_neg h2]at h;exact absurd rfl h
theorem De{d:aj}{out:List (List ae)}{l:List ae}{i:Nat}(h:(hC d out l).get i≠none):i=20004∨i=31000∨i=31001:=by
 have e:hC d out l=[(20004,.box 41 (enc db d)),(31000,.own (.row 50 (.sl br)) out),(31001,.own (.row 33 br) l)]:=rfl;rw[e]at h;simp only[Heap.get]at h;by_cases h1:20004=i
 ·exact .inl h1.symm
 by_cases h2:31000=i
 ·exact .inr (.inl h2.symm)
 by_cases h3:31001=i
 ·exact .inr (.inr h3.symm)
 rw[if_neg h1,if_neg h2,if_neg h3]at h;exact absurd rfl h
theorem yc{a b:Heap}{i:Nat}{o:Ob}(h:a.get i=some o):(a++b).get i=some o:=by rw[Heap.get_append,h]
theorem sS{a b:Heap}{i:Nat}(h:a.get i=none):(a++b).get i=b.get i:=by rw[Heap.get_append,h]
theorem GU{h:Hp}{i:Nat}(k:h i≠none→False):h i=none:=by
 cases e:h i with
 |none=>rfl
 |some _=>exact(k (by rw[e];simp)).elim
theorem Df{a b c:Heap}(g:Good Z ψ c.get w B0 O)(sa:∀i o,a.get i=some o→c.get i=some o)(sb:∀i o,b.get i=some o→c.get i=some o)(dis:∀i,a.get i≠none→b.get i≠none→False):gZ (Own ψ b.get) Z (Own ψ a.get) w:=by
 have up:∀{e:Heap} (se:∀i o,e.get i=some o→c.get i=some o) {i},e.get i≠none→c.get i≠none:=fun {e} se {i} hi=>by obtain⟨o,ho⟩:=acx.1 hi;rw[se i o ho];simp
 rintro q ⟨i,h1,h2⟩;refine⟨g.bT ⟨i,up sb h1,h2⟩,(g.live i q (up sb h1) h2).1,?_⟩;rintro⟨j,h3,h4⟩;have e:=g.apart i j q (up sb h1) (up sa h3) h2 h4;subst e;exact dis i h3 h1
end Go.Vs
namespace Go.Vs
open Go.Proofs Go.Cy
variable {Z Z' Z0:Nat→Prop} {ψ ψ' ψ0 tJ Ay:Nat→Value} {h h':Hp} {w w' w0:World} {B0:Nat} {O N:Nat→Prop}
variable {Ds:List Nat} {a:Act} {W:World}
abbrev x3(n i:Int)(m:Tm)(f:List ae)(x:ae)(d:aj)(out:List (List ae))(l:List ae):S3.T:=((n,(i,())),(((m,()),((f,()),((x,()),((d,()),((d,()),()))))),(out,(l,()))))
abbrev x12(n i:Int)(m:Tm)(f:List ae)(d:aj)(out:List (List ae))(l:List ae):S12.T:=((n,(i,())),(((m,()),((f,()),((d,()),()))),(out,(l,()))))
set_option maxRecDepth 20000 in
theorem TM(k:Nat){n i:Int}{m:Tm}{x:ae}{d:aj}{out:List (List ae)}{l:List ae}(wf:Wf d)(hx:x∈ax d.1)(s:Ms Z0 w0 Ds S3 (x3 n i m [] x d out l) a W) :
  cRF.wpIn (FW none) k Tryz.prog (fun e a' W'=>e=.normal∧Ms Z0 w0 (W.heap.size::Ds) S12 (x12 n i (tell m (bu d x)) (bu d x) d out l) a' W') a W:=by
 obtain⟨a0,Z,ψ,s⟩:=s;have hH:(ar S3 (x3 n i m [] x d out l)).heap=hA m []++(hU x d++hC d out l):=rfl;have hg:=s.g;have DL:=s.fr;have ht:=s.t;rw[hH]at hg DL ht;have sA:∀j o,(hA m []).get j=some o→(hA m []++(hU x d++hC d out l)).get j=some o:=fun j o e=>yc e;have nA:∀{j},j=20002∨j=20003∨j=20004∨j=31000∨j=31001→∀m f,(hA m f).get j=none:=fun {j} hj m f=>GU fun e=>by have:=Dd e;omega
 have nU:∀{j},j=20004∨j=31000∨j=31001→(hU x d).get j=none:=fun {j} hj=>GU fun e=>by have:=GS e;omega
 have sU:∀j o,(hU x d).get j=some o→(hA m []++(hU x d++hC d out l)).get j=some o:=fun j o e=>by have:=GS (show(hU x d).get j≠none by rw[e];simp);rw[sS (nA (by omega) m []),yc e]
 have sC:∀j o,(hC d out l).get j=some o→(hA m []++(hU x d++hC d out l)).get j=some o:=fun j o e=>by have:=De (show(hC d out l).get j≠none by rw[e];simp);rw[sS (nA (by omega) m []),sS (nU (by omega)),e]
 have gA:=hg.sub sA;have gU:=hg.sub sU;have gC:=hg.sub sC;have fUA:gZ (Own ψ (hU x d).get) Z (Own ψ (hA m []).get) W:=Df hg sA sU fun j h1 h2=>by have:=Dd h1;have:=GS h2;omega
 have fCA:gZ (Own ψ (hC d out l).get) Z (Own ψ (hA m []).get) W:=Df hg sA sC fun j h1 h2=>by have:=Dd h1;have:=De h2;omega
 have fCU:gZ (Own ψ (hC d out l).get) Z (Own ψ (hU x d).get) W:=Df hg sU sC fun j h1 h2=>by have:=GS h1;have:=De h2;omega
 have Zd:=ht.rep 22;have e22:look (ar S3 (x3 n i m [] x d out l)).tmps 22=.fn 254 [.ref 20002 0 0 0,.ref 20003 0 0 0]:=rfl;rw[e22]at Zd;simp only[aC,aq]at Zd;obtain⟨ws,hv,px,_,Yf,rx,pd,_,rfl,rd,rfl⟩:=Zd;have Yf:ws=#[px,pd]:=Array.ext' Yf;subst Yf;have less:∀{hp:Heap} {v:AV} {u:Value},(∀j o,hp.get j=some o→(hA m []++(hU x d++hC d out l)).get j=some o)→aC Z ψ (hA m []++(hU x d++hC d out l)).get W v u→aC Z ψ hp.get W v u:=fun {hp v u} hs hr=>hr.qA hs;have rx:aC Z ψ (hU x d).get W (.ref 20002 0 0 0) px:=less sU (by simp only[aC];exact rx);have rd:aC Z ψ (hU x d).get W (.ref 20003 0 0 0) pd:=less sU (by simp only[aC];exact rd);have sl:Sl a0.tmps Z ψ (hA m []).get W:=⟨ht.size,less sA (ht.rep 4),less sA (ht.rep 7)⟩;rw[s.e];refine wpIn_rangeFunc ?_;intro fn _;obtain⟨D,hD⟩:∃D,D=W.heap.size:=⟨_,rfl⟩;obtain⟨W1,ux⟩:∃W1,W1=(W.alloc (.deferred (some []))).alloc (.loop (nS .ready fn a0.tmps D)):=⟨_,rfl⟩;have jf:W1.heap.size=D+2:=by rw[ux,hD];simp
 have cW:∀b,b<W.heap.size→W1.heap[b]? = W.heap[b]? := fun b hb=>by rw[ux,heap_alloc_old _ _ (by rw[World.size_alloc];omega),heap_alloc_old _ _ hb]
 have hL1:W1.heap[D+1]? = some (.loop (nS .ready fn a0.tmps D)):=by have:=World.alloc_heap_new (W.alloc (.deferred (some []))) (.loop (nS .ready fn a0.tmps D));rw[World.size_alloc,←ux,←hD]at this;exact this
 have hD1:W1.heap[D]? = some (.deferred (some [])):=by rw[ux,hD,heap_alloc_old _ _ (by rw[World.size_alloc];omega)];exact World.alloc_heap_new W _
 have lift:∀{hp:Heap} {ψ:Nat→Value},Good Z ψ hp.get W w0.heap.size DA→Good Z ψ hp.get W1 w0.heap.size DA:=fun {hp ψ} g=>g.same (fun _ h=>h) (fun b hb=>cW b (hb.elim (g.jP b) g.bT)) (fun b hb hz=>(g.zA b hz).2 hb) fun b hb=>by have:=g.jP b hb;omega
 have Zh:cz Z W W1:=fun b hb=>cW b (hg.jP b hb);have gA1:=lift gA;have gU1:=lift gU;have gC1:=lift gC;have up:∀{X A:Nat→Prop},gZ X Z A W→gZ X Z A W1:=fun {X A} f b hb=>⟨by have:=(f b hb).1;omega,(f b hb).2⟩;have sl1:Sl a0.tmps Z ψ (hA m []).get W1:=⟨sl.n,sl.t4.less (fun _ h=>h) Zh fun j hj=>⟨hj,rfl⟩,sl.t7.less (fun _ h=>h) Zh fun j hj=>⟨hj,rfl⟩⟩;have fresh:∀{hp:Heap} {b:Nat},Good Z ψ hp.get W w0.heap.size DA→W.heap.size≤b→¬Z b∧¬Own ψ hp.get b:=fun {hp b} g hb=>⟨fun hz=>by have:=g.jP b hz;omega,fun ho=>by have:=g.bT ho;omega⟩;have fl0:∀b,D≤b→b<D+2→b<W1.heap.size∧¬Z b∧¬(Own ψ (hA m []).get b∨Own ψ (hU x d).get b):=fun b h1 h2 =>⟨by omega,(fresh gA (by omega)).1,fun h=>h.elim (fresh gA (by omega)).2 (fresh gU (by omega)).2⟩;have fl1:gZ (·=D+1) Z (fun b=>Own ψ (hA m []).get b∨Own ψ (hU x d).get b) W1:=fun b hb=>fl0 b (by omega) (by omega);have hlen:([]:List ae).length+(bu d x).length≤fk:=by have:=EL d x;unfold fk;simp;omega
 have it:=V8 (k-1) wf hx gA1 gU1 (up fUA) (by rw[jf,hD];have:=s.wk.size;omega) sl1 (rx.less (fun _ h=>h) Zh fun j hj=>⟨hj,rfl⟩) (rd.less (fun _ h=>h) Zh fun j hj=>⟨hj,rfl⟩) hL1 fl1 hlen;refine⟨D+1,[Uy D],W1,{ target:=.fn (.func 254) #[px,pd],args:=#[.func (.yield (D+1)) #[] #[]] },W1,254,#[.func (.yield (D+1)) #[] #[],px,pd],W1,?_,?_,fun _ _=>trivial,?_,fun h=>(by cases h),?_⟩
 ·rw[ux,hD];exact run_enterLoop_outer _ _ _ _ _
 ·rw[uJ];have A5:a0.eval (.tmp 22)=.func (.func 254) #[] #[px,pd]:=hv;simp only[Go.resolve,A5];simp[go_sem]
 ·show(callFunc 254 (#[.func (.yield (D+1)) #[] #[]]++#[px,pd])).run _ _=_;have hc:K6 [(254,Pj)]=true:=by kernel_rfl
  exact js (Aq hc (g:=Pj) (f:=254) (by simp)) _
 refine it.mono ?_;rintro e W2 ⟨⟨v,rfl⟩,Z2,eg,Pn⟩;refine⟨none,_,run_endLoop Pn.hl (by simp[nS]),rfl,?_⟩;have tA:∀{X},gZ X Z (fun b=>Own ψ (hA m []).get b∨Own ψ (hU x d).get b) W1→gZ X Z2 (Own eg (hA (tell m (bu d x)) ([]++bu d x)).get) W2:=fun {X} f=>Pn.tr.JC f;rw[List.nil_append]at Pn;have fC1:gZ (Own ψ (hC d out l).get) Z (fun b=>Own ψ (hA m []).get b∨Own ψ (hU x d).get b) W1:=fun b hb=>⟨(up fCA b hb).1,(up fCA b hb).2.1,fun h=>h.elim (fCA b hb).2.2 (fCU b hb).2.2⟩;have cD:∀b,Own ψ (hC d out l).get b→b<D:=fun b hb=>by rw[hD];exact gC.bT hb
 have zD:∀b,Z b→b<D:=fun b hb=>by rw[hD];exact hg.jP b hb
 have gA2:=Pn.gA;have gC2:Good Z2 ψ (hC d out l).get W2 w0.heap.size DA:=Pn.tr.part (fun b hb h=>h.elim (gA.zA b hb).2 (gU.zA b hb).2) gC1 fC1 (fun b hb e=>by rcases hb with hb|hb;have:=zD b hb;omega;have:=cD b hb;omega) gA2.jP;have apC:gZ (Own ψ (hC d out l).get) Z2 (Own eg (hA (tell m (bu d x)) (bu d x)).get) W2:=Pn.tr.JC fC1;have PT:gZ (·=D+1) Z2 (Own eg (hA (tell m (bu d x)) (bu d x)).get) W2:=Pn.tr.JC fl1;have flC:gZ (·=D+1) Z2 (Own ψ (hC d out l).get) W2:=fun b hb=>⟨(PT b hb).1,(PT b hb).2.1,fun h=>by have:=cD b h;have hb:b=D+1:=hb;omega⟩;have gA3:=gA2.putObj (o':=.loop { nS .ready fn a0.tmps D with state:=.exhausted }) PT;have gC3:=gC2.putObj (o':=.loop { nS .ready fn a0.tmps D with state:=.exhausted }) flC;obtain⟨W3,XJ⟩:∃W3,W3=W2.putObj (D+1) (.loop { nS .ready fn a0.tmps D with state:=.exhausted }):=⟨_,rfl⟩;rw[←XJ]at gA3 gC3 ⊢;have sm3:cz Z2 W2 W3:=by rw[XJ];exact nr PT
 have adO:W3.heap.size=W2.heap.size:=by rw[XJ];simp
 have dis:∀j,(hA (tell m (bu d x)) (bu d x)).get j≠none→(hC d out l).get j=none:=fun j hj=>GU fun e=>by have:=Dd hj;have:=De e;omega
 have apJ:∀q,Own eg (hA (tell m (bu d x)) (bu d x)).get q→¬Own ψ (hC d out l).get q:=fun q h1 h2=>(apC q h2).2.2 h1;have gJ:=gA3.join gC3 dis apJ (fun j ty cs hj=>by
  have e:=Dd (show(hA (tell m (bu d x)) (bu d x)).get j≠none by rw[hj];simp);rcases e with rfl|rfl|rfl|rfl
  ·cases hj
   show aG _ [.bK 9000];simp only[aG,aM];exact⟨fun k=>(by cases k),trivial⟩
  ·cases hj
  ·cases hj
   show aG _ [.bK 9016];simp only[aG,aM];exact⟨fun k=>(by cases k),trivial⟩
  ·cases hj) (fun j ty cs hj=>by
  have e:=De (show(hC d out l).get j≠none by rw[hj];simp);rcases e with rfl|rfl|rfl
  ·cases hj;exact rM d _
  ·cases hj
  ·cases hj)
 have ajn:∀b,Own (ql (hA (tell m (bu d x)) (bu d x)).get eg ψ) (hA (tell m (bu d x)) (bu d x)++hC d out l).get b→Own eg (hA (tell m (bu d x)) (bu d x)).get b∨Own ψ (hC d out l).get b:=fun b ⟨j,h1,h2⟩=>by
  by_cases e:(hA (tell m (bu d x)) (bu d x)).get j=none
  ·rw[sS e]at h1;rw[oX e]at h2;exact .inr ⟨j,h1,h2⟩
  ·rw[oW e]at h2;exact .inl ⟨j,e,h2⟩
 refine⟨a0,Z2,ql (hA (tell m (bu d x)) (bu d x)).get eg ψ,?_,?_,?_,?_,?_,?_,?_⟩
 ·show({ la (Ds.map Uy) a0 with defers:=[Uy D]++(la (Ds.map Uy) a0).defers }:Act)=la ((W.heap.size::Ds).map Uy) a0;unfold la;rw[ht.defers,←hD];rfl
 ·have o1:∀q,(Own ψ (hA m []).get q∨Own ψ (hU x d).get q)→w0.heap.size≤q∨DA q:=fun q h=>h.elim (gA.from q) (gU.from q);have w1:Wk Z0 w0 DA Z W1:=s.wk.step (A:=fun q=>Own ψ (hA m []).get q∨Own ψ (hU x d).get q) (B:=fun q=>Own ψ (hA m []).get q∨Own ψ (hU x d).get q) (L:=DA) (Tr.cx (by rw[ux];rfl) (by rw[ux];rfl) (by rw[ux];rfl) (by rw[jf,hD];omega) fun b hb _=>cW b hb) o1 fun _ h=>h.elim;have hDl:∀b,b=D+1→w0.heap.size≤b:=fun b hb=>by have:=s.wk.size;omega
  have w2:=w1.step Pn.tr o1 hDl;rw[XJ];exact w2.step ya gA2.from hDl
 ·exact gJ
 ·have q1:∀{j},(j=20000∨j=20001)→(hA (tell m (bu d x)) (bu d x)).get j≠none:=fun {j} hj=>by rcases hj with rfl|rfl<;>(intro k;cases k)
  have rA:∀{j u},(j=20000∨j=20001)→aC Z2 eg (hA (tell m (bu d x)) (bu d x)).get W2 (.ref j 0 0 0) u→aC Z2 (ql (hA (tell m (bu d x)) (bu d x)).get eg ψ) (hA (tell m (bu d x)) (bu d x)++hC d out l).get W3 (.ref j 0 0 0) u:=fun {j u} hj hr =>GN (fun _ h=>h) hr fun _=>⟨q1 hj,oW (q1 hj)⟩;have cN:∀{j},(j=20004∨j=31000∨j=31001)→(hA m []++(hU x d++hC d out l)).get j≠none∧ql (hA (tell m (bu d x)) (bu d x)).get eg ψ j=ψ j:=fun {j} hj=>by
   have e1:(hC d out l).get j≠none:=by rcases hj with rfl|rfl|rfl<;>(intro k;cases k)
   obtain⟨o,ho⟩:=acx.1 e1;exact⟨by rw[sC _ _ ho];simp,oX (nA (by omega) _ _)⟩
  refine fb (fun p hp=>?_) ht.size ht.defers;have hp:p∈[(12,AV.int .i64 n),(13,AV.int .i64 i),(4,AV.ref 20000 0 0 0),(7,AV.ref 20001 0 0 0),(1,AV.ref 20004 0 0 0),(3,AV.bK 31000),(11,AV.bK 31001)]:=hp;simp only[List.mem_cons,List.not_mem_nil,or_false]at hp;rcases hp with rfl|rfl|rfl|rfl|rfl|rfl|rfl
  ·exact ht.rep 12
  ·exact ht.rep 13
  ·exact rA (.inl rfl) Pn.s.t4
  ·exact rA (.inr rfl) Pn.s.t7
  ·exact GN (fun b hb=>Pn.tr.fV b hb) (ht.rep 1) fun _=>cN (.inl rfl)
  ·exact AA (ht.rep 3) fun _=>cN (.inr (.inl rfl))
  ·exact AA (ht.rep 11) fun _=>cN (.inr (.inr rfl))
 ·refine ac9.2 ⟨fun hm=>?_,s.nd⟩;have:=(DL _ hm).1;omega
 ·have keep:∀b,b<D+1→b<W1.heap.size→¬(Own ψ (hA m []).get b∨Own ψ (hU x d).get b)→W3.heap[b]? = W1.heap[b]? := fun b h1 h2 h3=>by rw[XJ,World.putObj_heap_other (by omega)];exact Pn.tr.block b h2 h3 (by omega)
  intro q hq;rcases aa1.1 hq with rfl|hq
  ·refine⟨?_,s.wk.size⟩;rw[←hD];exact(keep D (by omega) (by omega) (fl0 D (by omega) (by omega)).2.2).trans hD1
  ·have h0:=DL q hq;refine⟨?_,(s.m q hq).2⟩;have own:∀{hp:Heap},(∀j o,hp.get j=some o→(hA m []++(hU x d++hC d out l)).get j=some o)→¬Own ψ hp.get q:=fun {hp} hs ⟨j,h1,h2⟩=>h0.2.2 ⟨j,(by obtain⟨o,ho⟩:=acx.1 h1;rw[hs _ _ ho];simp),h2⟩;rw[keep q (by omega) (by omega) (fun h=>h.elim (own sA) (own sU)),cW q h0.1];exact(s.m q hq).1
 ·intro q hq;have base:q<W1.heap.size∧¬Z q∧¬(Own ψ (hA m []).get q∨Own ψ (hU x d).get q)∧¬Own ψ (hC d out l).get q:=by
   rcases aa1.1 hq with rfl|hq
   ·have h1:=fl0 W.heap.size (by omega) (by omega);exact⟨h1.1,h1.2.1,h1.2.2,fun h=>by have:=cD _ h;omega⟩
   ·have h0:=DL q hq;have own:∀{hp:Heap},(∀j o,hp.get j=some o→(hA m []++(hU x d++hC d out l)).get j=some o)→¬Own ψ hp.get q:=fun {hp} hs ⟨j,h1,h2⟩=>h0.2.2 ⟨j,(by obtain⟨o,ho⟩:=acx.1 h1;rw[hs _ _ ho];simp),h2⟩;exact⟨by omega,h0.2.1,fun h=>h.elim (own sA) (own sU),own sC⟩
  have h2:=Pn.tr.JC (X:=(·=q)) (fun b hb=>by have hb:b=q:=hb;subst hb;exact⟨base.1,base.2.1,base.2.2.1⟩) q rfl;exact⟨by rw[adO];exact h2.1,h2.2.1,fun h=>(ajn q h).elim h2.2.2 base.2.2.2⟩
end Go.Vs
namespace Go.Vs
open Go.Proofs Go.Cy
variable {Z Z' Z0:Nat→Prop} {ψ ψ' ψ0 tJ Ay:Nat→Value} {h h':Hp} {w w' w0:World} {B0:Nat} {O N:Nat→Prop}
theorem yd{β α:Type}[DecidableEq β]{x z:β}{v:α}:∀{es:List (β×α)} {i:Nat},(es.findIdx? fun e=>decide (e.1=x))=some i→fO z (es.set i (x,v))=if x=z then some v else fO z es
 |[],i,h=>by simp at h
 |e::r,i,h=>by
  rw[List.findIdx?_cons]at h;by_cases he:e.1=x
  ·rw[if_pos (decide_eq_true he)]at h
   cases h
   rw[List.set_cons_zero,fO,fO];show(if x=z then some v else fO z r)=_;rw[he];by_cases k:x=z
   ·rw[if_pos k,if_pos k]
   ·rw[if_neg k,if_neg k,if_neg k]
  ·rw[if_neg (by simpa using he)]at h;obtain⟨j,hj,rfl⟩:=adJ.1 h;have ih:=yd (z:=z) (v:=v) hj;rw[List.set_cons_succ,fO,fO,ih];by_cases k:e.1=z
   ·rw[if_pos k,if_neg (fun q=>he (k.trans q.symm)),if_pos k]
   ·rw[if_neg k,if_neg k]
theorem yf{β α:Type}[DecidableEq β]{x z:β}{v:α}:∀{es:List (β×α)},(es.findIdx? fun e=>decide (e.1=x))=none→fO z (es++[(x,v)])=if x=z then some v else fO z es
 |[],_=>rfl
 |e::r,h=>by
  rw[List.findIdx?_eq_none_iff]at h;have he:e.1≠x:=by have:=h e acr;simpa using this
  have ih:=yf (z:=z) (v:=v) (es:=r) (List.findIdx?_eq_none_iff.2 fun q hq=>h q (aaY _ hq));rw[List.cons_append,fO,fO,ih];by_cases k:e.1=z
  ·rw[if_pos k,if_neg (fun q=>he (k.trans q.symm)),if_pos k]
  ·rw[if_neg k,if_neg k]
theorem Po{α:Type}(x z:ae)(v:α)(es:List (ae×α)):fO z (mK br x v es)=if x=z then some v else fO z es:=by
 have e:=LD x es;unfold mK
 split
 ·rename_i i hi;exact yd (e.symm.trans hi)
 ·rename_i hi;exact yf (e.symm.trans hi)
def Fa(m:Tm)(T:List ae):Prop:=∀z,(fO z m).getD false=decide (z∈T)
theorem Fa.tell{m:Tm}{T:List ae}(h:Fa m T)(l:List ae):Fa (tell m l) (T++l):=by
 induction l generalizing m T with
 |nil=>rw[List.append_nil];exact h
 |cons y r ih =>
  have h1:Fa (oZ m y) (T++[y]):=fun z=>by
   unfold oZ;rw[Po];by_cases k:y=z
   ·subst k;simp
   ·rw[if_neg k,h z];have:(z∈T++[y])↔z∈T:=by simp[Ne.symm k]
    rw[Bool.eq_iff_iff];simp[Ne.symm k]
  have:=ih h1;rw[List.append_assoc]at this;exact this
theorem TN{m:Tm}{T:List ae}(h:Fa m T)(y:ae):(jk br (y.1,y.2) m).getD false=decide (y∈T):=by have:=TD y m;show(jk br y m).getD false=_;rw[this];exact h y
abbrev x0(n i:Int)(m:Tm)(d:aj)(out:List (List ae))(l:List ae):S0.T:=((n,(i,())),(((m,()),((d,()),())),(out,(l,()))))
theorem Na{Ds:List Nat}{sh:Shape}{x:sh.T}{a:Act}{W:World}(s:Ms Z0 w0 Ds sh x a W){i:Nat}{b:Bool}(e:look (ar sh x).tmps i=.bool b):a.eval (.tmp i)=.bool b:=by obtain⟨a0,Z,ψ,s⟩:=s;have:=s.t.rep i;rw[e]at this;rw[s.e,uJ];exact this
theorem wy{n:Nat}{fn:Func}{tmps:Array Value}{R:Ending→World→Prop}:∀(Ds:List Nat) (W:World),Ds.Nodup→(∀D,D∈Ds→W.heap[D]? = some (.deferred (some []))) →(∀W',W'.os=W.os→W'.tape=W.tape→W'.output=W.output→W'.heap.size=W.heap.size→(∀b,b∉Ds→W'.heap[b]? = W.heap[b]?)→∃v,(results fn tmps).run Tryz.prog W'=.ok v W'∧R (.returned v) W') → LeavesInM (FW none) n Tryz.prog fn tmps R (Ds.map Uy) .returning W
 |[],W,_,_,h=>h W rfl rfl rfl rfl fun _ _=>rfl
 |D::Ds,W,hn,hd,h=>by
  obtain⟨h1,h2⟩:=ac9.1 hn;refine⟨by simp,.inl ⟨D,_,rfl,run_takeDeferred (hd D acr),?_⟩⟩;refine wy Ds _ h2 (fun E hE=>?_) fun W' e1 e2 e3 e4 e5=>?_
  ·rw[World.putObj_heap_other (fun e:E=D=>h1 (by rw[←e];exact hE))];exact hd E (aaY _ hE)
  ·refine h W' e1 e2 e3 (e4.trans (by simp)) fun b hb=>?_;rw[e5 b (fun k=>hb (List.mem_cons_of_mem _ k))];exact World.putObj_heap_other fun e:b=D=>hb (by rw[e];exact acr)
abbrev SN:Shape:=⟨[(0,db)],[],[],[]⟩
theorem Pp{d:aj}(wf:Wf d):Ej Tryz.prog 240 yY ((d,()),()) ((c6 d,()),()):=by
 intro Z ψ0 w kr hg hr;have hr:aq Z ψ0 (Heap.get []) w [cq db d] kr:=hr;have hg:Good Z ψ0 (Heap.get []) w w.heap.size (Own ψ0 (Heap.get [])):=hg;have Dg:∀b,¬Own ψ0 (Heap.get []) b:=fun b ⟨i,h1,_⟩=>h1 rfl;simp only[aq]at hr;obtain⟨u0,_,rfl,hu,rfl⟩:=hr;refine wx (r:=none) (n:=5) (callsIn_of_wp_marks Tryz.func240 V5 trivial ?_ rfl);obtain⟨Az,JF⟩:∃t:Array Value,t=#[u0]++Array.replicate (Tryz.f240.ntmps-(#[u0]:Array Value).size) undef:=⟨_,rfl⟩;show Code.wpIn _ _ _ _ _ { tmps:=#[u0]++Array.replicate (Tryz.f240.ntmps-(#[u0]:Array Value).size) undef,defers:=[] } w;rw[←JF];have Zb:Az.size=36:=by rw[JF,Tryz.ntmps240];simp
 have e0:Az.getD 0 undef=u0:=by rw[JF];simp
 have ms0:MsX Z w [] SN ((d,()),((),())) { tmps:=Az,defers:=[] } w { tmps:=Az,defers:=[] } Z ψ0:=by refine⟨rfl,Wk.start Z w DA,hg.TH fun b h _=>(Dg b h).elim,fb (fun p hp=>?_) Zb rfl,List.nodup_nil,fun D hD=>(by cases hD),fun D hD=>(by cases hD)⟩;have hp:p∈[(0,cq db d)]:=hp;simp only[List.mem_cons,List.not_mem_nil,or_false]at hp;subst hp;show aC _ _ _ _ _ (Az.getD 0 undef);rw[e0];exact hu
 have ajo:F1 249 vA ((d,()),())=some ((eW d.2,()),()):=TI rfl (adt hg0 d wf.sm);have hn:=(ai4 F1 d).trans (aa ajo rfl);refine wpIn_seq (wpIn_mono (GR hn 5 ms0) ?_);rintro e a1 W1 ⟨rfl,a2,rfl,_,iG,Z1,nW,q1,V7,t1⟩;refine wpIn_seq (wpIn_mono (dX qm q1 none 5 _ V7 t1) ?_);rintro e a3 W3 ⟨rfl,a4,rfl,_,st2,Z2,eg,q2,Dz,t2⟩;refine wpIn_seq (wpIn_mono (dX qm q2 none 5 _ Dz t2) ?_);rintro e a5 W5 ⟨rfl,a6,rfl,_,st3,Z3,Qr,q3,V9,t3⟩;refine wpIn_seq (wpIn_seq (wpIn_mono (dX qm q3 none 5 _ V9 t3) ?_));rintro e a7 W7 ⟨rfl,a8,rfl,_,st4,Z4,Bo,q4,Y7,t4⟩;have ms:=LN ms0 q4 Y7 t4;clear q1 q2 q3 q4 V7 Dz V9 Y7 t1 t2 t3 t4;obtain⟨l,hl⟩:∃l,l=eW d.2:=⟨_,rfl⟩;rw[←hl]at ms;have hll:l.length≤80:=by rw[hl,my];have:=wf.ne;omega
 have gY:∀y,y∈l→y∈ax d.1:=fun y hy=>by rw[hl,lx]at hy;exact wf.pd.mem_iff.2 hy
 refine wpIn_block ?_;refine GQ (fun k a W=>∃(i:Nat) (m:Tm) (out:List (List ae)) (T:List ae) (Ds:List Nat),i≤l.length∧k=l.length-i∧out.length≤i∧Ms Z w Ds S0 (x0 ((l.length:Nat):Int) (i:Int) m d out l) a W∧iy d (l.drop i) out T=c6 d∧Fa m T) (k:=l.length) ⟨0,[],[],[],[],aeH _,rfl,ada _,ms,by rw[List.drop_zero,hl];rfl,fun z=>by simp[fO]⟩ ?_;rintro k a W ⟨i,m,out,T,Ds,hi,rfl,ho,ms,J2,ht⟩;refine wpIn_seq (wpIn_mono (Dc (n4 F1 ((l.length:Nat):Int) (i:Int) _) 5 ms) ?_);rintro e a1 W1 ⟨rfl,ms1⟩;have WM:=Na ms1 (i:=14) rfl;by_cases aF:i<l.length
 case neg =>
  have e:i=l.length:=by omega
  have ef:decide ((i:Int)<((l.length:Nat):Int))=false:=decide_eq_false (by omega);rw[ef]at WM;refine wpIn_seq (wpIn_cond_false WM (wpIn_exit ?_));show Code.wpIn _ _ _ _ _ _ _;refine wpIn_seq (wpIn_mono (Dc (n14 F1 _ _ _ m d out l) 5 ms1) ?_);rintro e a2 W2 ⟨rfl,ms2⟩;refine wpIn_ret ?_;obtain⟨a0,Z2,eg,s⟩:=ms2;rw[e,List.drop_eq_nil_of_le (Nat.le_refl _)]at J2;have J2:out=c6 d:=J2;rw[s.e];show LeavesInM _ _ _ _ a0.tmps _ (a0.defers++Ds.map Uy) .returning W2;rw[s.t.defers,List.nil_append];refine wy Ds W2 s.nd (fun D hD=>(s.m D hD).1) fun W3 e1 e2 e3 e4 e5=>?_;have vu:Tryz.f240.results=#[.tmp 2]:=by kernel_rfl
  have nZ:∀b,Z2 b∨Own eg (ar SE ((),((),(out,())))).heap.get b→b∉Ds:=fun b hb hD=>by have:=s.fr b hD;exact hb.elim this.2.1 this.2.2
  have g3:Good Z2 eg (ar SE ((),((),(out,())))).heap.get W3 w.heap.size DA:=s.g.same (fun _ h=>h) (fun b hb=>e5 b (nZ b hb)) (fun b hb hz=>(s.g.zA b hz).2 hb) fun b hb=>by rw[e4];exact s.g.jP b hb
  have k3:Wk Z w DA Z2 W3:=⟨s.wk.fV,s.wk.eR,e1.trans s.wk.os,e2.trans s.wk.tape,e3.trans s.wk.output,by rw[e4];exact s.wk.size,fun b hb ho=>by rw[e5 b (fun hD=>by have:=(s.m b hD).2;omega)];exact s.wk.block b hb ho⟩;refine⟨_,results_tmp vu _ _ _,_,Z2,eg,rfl,k3.fV,fun b hb=>?_,⟨k3.os,k3.tape,k3.output,k3.size,fun b hb _=>k3.block b hb fun h=>h⟩,?_,fun i hi=>(by cases hi),?_⟩
  ·rcases k3.eR b hb with h|h|h
   ·exact .inl h
   ·exact h.elim
   ·exact .inr (.inr h)
  ·rw[J2]at g3;exact g3.TH fun b _ hb=>hb.elim .inl fun h=>h.elim
  ·have r2:=s.t.rep 2;have:aC Z2 eg (ar SE ((),((),(out,())))).heap.get W2 (.bK 3000) (a0.tmps.getD 2 undef):=r2;rw[J2]at this;simp only[aC]at this;show aC Z2 eg _ W3 (.bK 3000) _;simp only[aC];exact this
 have et:decide ((i:Int)<((l.length:Nat):Int))=true:=aY aF;rw[et]at WM;refine wpIn_seq (wpIn_cond_true WM (wpIn_skip ?_));refine wpIn_seq (wpIn_block (wpIn_seq ?_));have hy:=gY l[i] (adg aF);have h5:=(n5 F1 (decide ((i:Int)<((l.length:Nat):Int))) ((l.length:Nat):Int) (i:Int) m d out l).trans (af (c9 (fj i) (aY aF)) (aa (a:=l[i]) (by rw[Int.toNat_natCast];exact aaV aF) rfl));refine wpIn_mono (M9 h5 5 ms1) ?_;rintro e a2 W2 ⟨rfl,hc⟩;refine wpIn_seq (wpIn_seq (wpIn_mono hc ?_));rintro e a3 W3 ⟨rfl,ms3⟩;have h19:=Na ms3 (i:=19) rfl;rw[TN ht]at h19;have MU:l.drop i=l[i]::l.drop (i+1):=adK aF;rw[MU,iy]at J2;by_cases hT:l[i]∈T
 ·rw[if_pos hT]at J2;refine wpIn_cond_true (h19.trans (congrArg Value.bool (decide_eq_true hT))) (wpIn_exit ?_);show Code.wpIn _ _ _ _ _ _ _;refine wpIn_mono (Dc (ai5 F1 _ _ _ m d l[i] out l) 5 ms3) ?_;rintro e a4 W4 ⟨rfl,ms4⟩;have ew:=aD aF (by omega);rw[ew]at ms4;exact⟨l.length-(i+1),by omega,i+1,m,out,T,Ds,by omega,rfl,by omega,ms4,J2,ht⟩
 rw[if_neg hT]at J2;refine wpIn_cond_false (h19.trans (congrArg Value.bool (decide_eq_false hT))) (wpIn_skip ?_);refine wpIn_seq (wpIn_mono (M9 (n7 F1 _ _ _ m d l[i] out l) 5 ms3) ?_);rintro e a4 W4 ⟨rfl,hc⟩;refine wpIn_seq (wpIn_seq (wpIn_mono hc ?_));rintro e a5 W5 ⟨rfl,ms5⟩;refine wpIn_block (wpIn_mono (TM 5 wf hy ms5) ?_);rintro e a6 W6 ⟨rfl,ms6⟩;have J1:=(n12 F1 ((l.length:Nat):Int) (i:Int) (tell m (bu d l[i])) (bu d l[i]) d out l).trans (af (fits (by omega)) rfl);refine wpIn_mono (Dc J1 5 ms6) ?_;rintro e a7 W7 ⟨rfl,ms7⟩;refine wpIn_mono (Dc (n13 F1 _ _ _) 5 ms7) ?_;rintro e a8 W8 ⟨rfl,ms8⟩;have ew:=aD aF (by omega);rw[ew]at ms8;exact⟨l.length-(i+1),by omega,i+1,_,_,_,_,by omega,rfl,by simp;omega,ms8,J2,ht.tell _⟩
end Go.Vs
