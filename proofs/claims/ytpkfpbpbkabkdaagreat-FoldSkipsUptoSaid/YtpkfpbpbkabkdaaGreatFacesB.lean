/- The walk of the function that tells faces, by hand: the second part. -/
import Derived.Test.YtpkfpbpbkabkdaaGreatFacesA
set_option linter.unusedSimpArgs false
set_option linter.unusedVariables false
namespace Go.Vs
open Go.Proofs Go.Cy
variable {Z Z' Z0:Nat→Prop} {ψ ψ' ψ0 rH w8:Nat→Value} {h h':Hp} {w w' w0:World} {B0:Nat} {O N:Nat→Prop}
theorem Ft{p:Nat→Prop}(h:∃n,p n):∃n,p n∧∀m,m<n→¬p m:=by
 obtain⟨n,hn⟩:=h
 induction n using Nat.strongRecOn with
 |_ n ih =>
  by_cases k:∃m,m<n∧p m
  ·obtain⟨m,h1,h2⟩:=k;exact ih m h1 h2
  ·exact⟨n,hn,fun m h1 h2=>k ⟨m,h1,h2⟩⟩
open Classical in
noncomputable def least(p:Nat→Prop):Nat:=if h:∃n,p n then Classical.choose (Ft h) else 0
theorem zU{p:Nat→Prop}(h:∃n,p n):p (least p)∧∀m,p m→least p≤m:=by
 unfold least
 rw[dif_pos h]
 obtain⟨h1,h2⟩:=Classical.choose_spec (Ft h)
 exact⟨h1,fun m hm=>Classical.byContradiction fun k=>h2 m (by omega) hm⟩
theorem C5{F:Fence}{n:Nat}{P:Program}{c:Code}{Q:Exit→Act→World→Prop}(I:Nat→Act→World→Prop){k:Nat}{a:Act}{w:World}(h0:I k a w)
  (round:∀k a w,I k a w→c.wpIn F n P (Exit.then (fun a' w'=>∃k',k'<k∧I k' a' w') Q) a w):(Code.loop c).wpIn F n P Q a w:=by
 refine wpIn_loop (fun a w=>∃k,I k a w) (fun a w=>least fun k=>I k a w) ⟨k,h0⟩ fun a w hI=>?_
 obtain⟨h1,_⟩:=zU hI
 refine wpIn_mono (round _ a w h1) fun e a' w' hq=>?_
 cases e with
 |normal=>obtain⟨k',h2,h3⟩:=hq;exact⟨⟨k',h3⟩,Nat.lt_of_le_of_lt ((zU ⟨k',h3⟩).2 k' h3) h2⟩
 |_=>exact hq
abbrev hU(x:ab)(d:ak):Heap:=(ai U0 ((),(((x,()),((d,()),())),()))).heap
abbrev hB(x:ab)(d:ak)(y:ab):Heap:=(ai U1 ((true,()),(((x,()),((d,()),((y,()),()))),()))).heap
def m8(m:Tm)(y:ab):Tm:=lq b7 y true m
def tell(m:Tm)(l:List ab):Tm:=l.foldl m8 m
theorem KB(m:Tm)(l:List ab)(y:ab):tell m (l++[y])=m8 (tell m l) y:=by simp[tell]
structure Bt(W1:World)(Z1:Nat→Prop)(OA OB:Nat→Prop)(B0:Nat)(O:Nat→Prop)(l:Nat)(rc:Loop)(tm:Array Value)(m:Tm)(f:List ab)(x:ab)(d:ak)(y:ab)(Z:Nat→Prop)(rH w8:Nat→Value)(a:Act)(W:World):Prop where
 gA:Good Z rH (hA m f).get W B0 O
 gB:Good Z w8 (hB x d y).get W B0 O
 ap:fP (Own w8 (hB x d y).get) Z (Own rH (hA m f).get) W
 s:Sl tm Z rH (hA m f).get W
 hl:W.heap[l]? = some (.loop rc)
 fl:fP (·=l) Z (fun b=>Own rH (hA m f).get b∨Own w8 (hB x d y).get b) W
 tr:Tr (·=l) Z1 (fun b=>OA b∨OB b) W1 Z (fun b=>Own rH (hA m f).get b∨Own w8 (hB x d y).get b) W
 a0:a.tmps.getD 0 undef=.func (.yield l) #[] #[]
 b0:B0≤W.heap.size
theorem Su{W:World}{x y:ab}{d:ak}{v:Value}(g:Good Z w8 (hB x d y).get W B0 O)(hr:ao Z w8 (hB x d y).get W (.ref 20004 0 0 0) v):∃V,(Instr.loadAt 33 v).run Tryz.prog W=.ok V W∧∀ψ h,ao Z ψ h W (bX b7 y) V:=by
 have hb:(hB x d y).get 20004=some (.box 33 (enc b7 y)):=rfl
 obtain⟨q,vs,e1,e2,e3,e4⟩:=g.box _ _ _ hb
 simp only[ao]at hr
 obtain⟨ad,rfl,h2⟩:=hr
 have h3:=h2 (by rw[hb];simp)
 rw[e1]at h3
 have h3:ad=⟨q,0,none⟩:=h3
 subst h3
 obtain⟨V,h4,h5⟩:=iS (P:=Tryz.prog) (t:=33) (a:=⟨q,0,none⟩) (x:=bX b7 y) e3 (fun j u hu=>by
  rw[bY,Nat.zero_add]
  simp only[World.cell?,e2]
  simpa using hu) (by kernel_rfl)
 exact⟨V,h4,fun ψ h=>h5.move (p:=fun _=>False) (fun _ h=>h) (b4.refl _ _) (fun _ k=>k.elim) (mD _ b7 y)⟩
structure Itr(W1:World)(Z1:Nat→Prop)(OA OB:Nat→Prop)(B0:Nat)(O:Nat→Prop)(l:Nat)(rc:Loop)(tm:Array Value)(m:Tm)(f:List ab)(Z:Nat→Prop)(rH:Nat→Value)(W:World):Prop where
 gA:Good Z rH (hA m f).get W B0 O
 s:Sl tm Z rH (hA m f).get W
 hl:W.heap[l]? = some (.loop rc)
 tr:Tr (·=l) Z1 (fun b=>OA b∨OB b) W1 Z (Own rH (hA m f).get) W
theorem PT(n:Nat){W1:World}{m:Tm}{f:List ab}{x:ab}{d:ak}{l D:Nat}{fn:FuncId}{tm:Array Value}{px pd:Value}(wf:Wf d)(hx:x∈aq d.1)
  (gA:Good Z rH (hA m f).get W1 B0 O) (gB:Good Z w8 (hU x d).get W1 B0 O) (ap:fP (Own w8 (hU x d).get) Z (Own rH (hA m f).get) W1) (WD:B0≤W1.heap.size) (s:Sl tm Z rH (hA m f).get W1)
  (rx:ao Z w8 (hU x d).get W1 (.ref 20002 0 0 0) px) (rd:ao Z w8 (hU x d).get W1 (.ref 20003 0 0 0) pd)
  (hl:W1.heap[l]? = some (.loop (mj .ready fn tm D))) (fl:fP (·=l) Z (fun b=>Own rH (hA m f).get b∨Own w8 (hU x d).get b) W1) (hf:f.length+(aW d x).length≤eL) :
  CallsIn (FW none) n Tryz.prog 254 #[.func (.yield l) #[] #[],px,pd] W1 fun e W'=>(∃v,e=.returned v)∧∃Z' ψ',Itr W1 Z (Own rH (hA m f).get) (Own w8 (hU x d).get) B0 O l (mj .ready fn tm D) tm (tell m (aW d x)) (f++aW d x) Z' ψ' W':=by
 obtain⟨r0,X0,Db,aZ,hcy⟩:=zG wf hx
 refine callsIn_of_wp Tryz.func254 PR trivial ?_ rfl
 obtain⟨w9,Fu⟩:∃t:Array Value,t=#[.func (.yield l) #[] #[],px,pd]++Array.replicate (Tryz.f254.ntmps-(#[.func (.yield l) #[] #[],px,pd]:Array Value).size) undef:=⟨_,rfl⟩
 rw[←Fu]
 have Sw:w9.size=23:=by rw[Fu,Tryz.ntmps254];simp
 have e0:w9.getD 0 undef=.func (.yield l) #[] #[]:=by rw[Fu];simp
 have e1:w9.getD 1 undef=px:=by rw[Fu];simp
 have e2:w9.getD 2 undef=pd:=by rw[Fu];simp
 have t0:cx Z w8 (hU x d).get W1 23 (look (ai U0 ((),(((x,()),((d,()),())),()))).tmps) { tmps:=w9,defers:=[] }:=by
  refine dL (fun p hp=>?_) Sw rfl
  have hp:p∈[(1,AV.ref 20002 0 0 0),(2,AV.ref 20003 0 0 0)]:=hp
  simp only[List.mem_cons,List.not_mem_nil,or_false]at hp
  rcases hp with rfl|rfl
  ·show ao _ _ _ _ _ (w9.getD 1 undef);rw[e1];exact rx
  ·show ao _ _ _ _ _ (w9.getD 2 undef);rw[e2];exact rd
 have zA:∀b,Z b→¬Own rH (hA m f).get b:=fun b hb=>(gA.zA b hb).2
 have zl:∀b,Z b→¬b=l:=fun b hb e=>(fl l rfl).2.1 (e▸hb)
 refine wpIn_seq ?_
 refine wpIn_mono (dq ot (u0 F1 x d) none n [] (Good.start gB) t0) ?_
 rintro e a1 W2 ⟨rfl,a2,rfl,k1,gF,Z1,mo,Sp,PS,t1⟩
 obtain⟨Z2,dx,Ai,t2⟩:=fi Sp PS t1
 have X1:Good Z2 dx (hB x d x).get W2 B0 O:=Ai.Hz gB WD
 have Q4:Tr (fun _=>False) Z (Own w8 (hU x d).get) W1 Z2 (Own dx (hB x d x).get) W2:=Ai.tr
 have fA:fP (Own rH (hA m f).get) Z (Own w8 (hU x d).get) W1:=fun b hb=>⟨gA.bw hb,fun hz=>zA b hz hb,fun h2=>(ap b h2).2.2 hb⟩
 have WE:Good Z2 rH (hA m f).get W2 B0 O:=Q4.part (fun b hb=>(gB.zA b hb).2) gA fA (fun _ _ h=>h) X1.iR
 obtain⟨fA2,_⟩:=Q4.free fA fun _ _ h=>h
 have ap2:fP (Own dx (hB x d x).get) Z2 (Own rH (hA m f).get) W2:=fun b hb=>⟨X1.bw hb,fun hz=>(X1.zA b hz).2 hb,fun h2=>(fA2 b h2).2.2 hb⟩
 have sm2:b4 Z W1 W2:=Q4.same gB.zA fun _ _ h=>h
 have s2:Sl tm Z2 rH (hA m f).get W2:=⟨s.n,s.t4.less Ai.eP sm2 fun i hi=>⟨hi,rfl⟩,s.t7.less Ai.eP sm2 fun i hi=>⟨hi,rfl⟩⟩
 obtain⟨KW,wD⟩:=(Q4.beside (Own rH (hA m f).get)).free (X:=(·=l)) (fun b hb=>⟨(fl b hb).1,(fl b hb).2.1,fun h=>(fl b hb).2.2 h.symm⟩) fun _ _ h=>h
 rw[dd]
 refine wpIn_block ?_
 have start:Bt W1 Z (Own rH (hA m f).get) (Own w8 (hU x d).get) B0 O l (mj .ready fn tm D) tm m f x d x Z2 rH dx a2 W2 :=
  ⟨WE,X1,ap2,s2,(wD l rfl).trans hl,fun b hb=>⟨(KW b hb).1,(KW b hb).2.1,fun h=>(KW b hb).2.2 h.symm⟩,(Q4.beside (Own rH (hA m f).get)).less (fun b h=>h.symm) (fun b h=>h.symm) (fun _ h=>h.elim),(k1 0 (by simp)).trans e0,Nat.le_trans WD Q4.size⟩
 refine C5 (fun k a W=>∃pre y rest Z' aaL WG b,aW d x=pre++y::rest∧k=rest.length∧Bt W1 Z (Own rH (hA m f).get) (Own w8 (hU x d).get) B0 O l (mj .ready fn tm D) tm (tell m pre) (f++pre) x d y Z' aaL WG a W ∧
  cx Z' WG (hB x d y).get W 23 (look (ai U1 ((b,()),(((x,()),((d,()),((y,()),()))),()))).tmps) a)
  (k:=r0.length) ⟨[],x,r0,Z2,rH,dx,true,X0,rfl,by rw[List.append_nil];exact start,t2⟩ ?_
 rintro k a W ⟨pre,y,rest,Z3,Lv,yd,bb,lk,rfl,bt,t3⟩
 have hy:y∈aq d.1:=aZ y (by rw[←X0,lk];simp)
 have r4:ao Z3 yd (hB x d y).get W (.ref 20004 0 0 0) (a.tmps.getD 4 undef):=t3.rep 4
 obtain⟨V,hV,rV⟩:=Su bt.gB r4
 have hlen:(f++pre).length+1≤eL:=by
  rw[lk]at hf;simp at hf ⊢;omega
 have rin:=NC (n-1) bt.gA bt.b0 bt.s (rV Lv _) hlen bt.hl (fun b hb=>⟨(bt.fl b hb).1,(bt.fl b hb).2.1,fun h=>(bt.fl b hb).2.2 (.inl h)⟩)
 have Br:(Instr.yield l #[V]).run Tryz.prog W=.ok (.round l fn (tm.setIfInBounds 23 V) (r6 9) bd) W:=by
  have:=run_yield (P:=Tryz.prog) (args:=#[V]) bt.hl rfl
  simpa[mj] using this
 refine wpIn_seq (wpIn_seq ?_)
 refine ND n t3.size bt.a0 hV Br (rin.mono ?_)
 rintro e W4 ⟨rfl,Z4,IS,Fv⟩
 refine⟨.bool true,rfl,?_⟩
 obtain⟨b,hb⟩:∃b,b=((a.put (some 7) (.func (.yield l) #[] #[])).put (some 8) V).put (some 9) (.bool true):=⟨_,rfl⟩
 rw[←hb]
 have other:∀i,i≠7→i≠8→i≠9→b.tmps.getD i undef=a.tmps.getD i undef:=fun i h7 h8 h9=>by
  rw[hb,bK _ _ (fun j hj=>by cases hj;exact h9),bK _ _ (fun j hj=>by cases hj;exact h8),bK _ _ (fun j hj=>by cases hj;exact h7)]
 have bsz:b.tmps.size=23:=by rw[hb,b5,b5,b5];exact t3.size
 have bdf:b.defers=[]:=by rw[hb,put_defers,put_defers,put_defers];exact t3.defers
 have b9:b.eval (.tmp 9)=.bool true:=by
  have:((a.put (some 7) (.func (.yield l) #[] #[])).put (some 8) V).tmps.size=23:=by rw[b5,b5];exact t3.size
  rw[hb]
  show(((a.put (some 7) (.func (.yield l) #[] #[])).put (some 8) V).put (some 9) (.bool true)).tmps.getD 9 undef=_
  rw[gb (by omega),if_pos rfl]
 refine wpIn_cond_true b9 (wpIn_skip (wpIn_block (wpIn_seq ?_)))
 have z3l:∀q,Z3 q→¬q=l:=fun q hq e=>(bt.fl l rfl).2.1 (e▸hq)
 have bl:∀q,Own yd (hB x d y).get q→¬q=l:=fun q hq e=>(bt.fl l rfl).2.2 (.inr (e▸hq))
 have X2:Good Z4 yd (hB x d y).get W4 B0 O:=Fv.tr.part (fun q hq=>(bt.gA.zA q hq).2) bt.gB bt.ap (fun q hq=>hq.elim (z3l q) (bl q)) Fv.g.iR
 obtain⟨ap4,_⟩:=Fv.tr.free bt.ap bl
 have sm4:b4 Z3 W W4:=Fv.tr.same bt.gA.zA z3l
 have t4:cx Z4 yd (hB x d y).get W4 23 (look (ai U1 ((bb,()),(((x,()),((d,()),((y,()),()))),()))).tmps) b:=by
  have up:∀i v,i≠7→i≠8→i≠9→look (ai U1 ((bb,()),(((x,()),((d,()),((y,()),()))),()))).tmps i=v→ao Z4 yd (hB x d y).get W4 v (b.tmps.getD i undef):=fun i v h7 h8 h9 e=>by
   rw[other i h7 h8 h9,←e]
   exact(t3.rep i).less Fv.tr.eP sm4 fun j hj=>⟨hj,rfl⟩
  refine dL (fun p hp=>?_) bsz bdf
  have hp:p∈[(5,AV.bool bb),(1,AV.ref 20002 0 0 0),(2,AV.ref 20003 0 0 0),(4,AV.ref 20004 0 0 0)]:=hp
  simp only[List.mem_cons,List.not_mem_nil,or_false]at hp
  rcases hp with rfl|rfl|rfl|rfl
  ·exact up 5 _ (by decide) (by decide) (by decide) rfl
  ·exact up 1 _ (by decide) (by decide) (by decide) rfl
  ·exact up 2 _ (by decide) (by decide) (by decide) rfl
  ·exact up 4 _ (by decide) (by decide) (by decide) rfl
 have hB4:B0≤W4.heap.size:=Nat.le_trans bt.b0 Fv.tr.size
 have aaM:F1 255 Bq ((d,((y.1,y.2),())),())=some ((ph d y,(true,())),()):=by
  have:=NA rfl (Wq hg0 d y wf)
  rw[Fa wf hy]at this
  exact this
 have hn:=(u2 F1 bb x y d).trans (aa aaM rfl)
 have run:=dq ot hn none n [] (Good.start X2) t4
 rw[dd]at run
 refine wpIn_mono run ?_
 clear run
 rintro e a5 W5 ⟨rfl,a6,rfl,k6,st6,Z6,ψ6,Sr,ok6,t6⟩
 refine wpIn_seq ?_
 refine wpIn_mono (dq ot Sr none n [] ok6 t6) ?_
 rintro e a7 W7 ⟨rfl,a8,rfl,k8,st8,Z8,ψ8,aaN,ok8,t8⟩
 obtain⟨Z9,WH,X3,t9⟩:=fi aaN ok8 t8
 rw[dd]
 have WI:Good Z9 WH (hB x d (ph d y)).get W7 B0 O:=X3.Hz X2 hB4
 have Ty:Tr (fun _=>False) Z4 (Own yd (hB x d y).get) W4 Z9 (Own WH (hB x d (ph d y)).get) W7:=X3.tr
 have fA4:fP (Own IS (hA (m8 (tell m pre) y) (f++pre++[y])).get) Z4 (Own yd (hB x d y).get) W4:=fun q hq=>⟨Fv.g.bw hq,fun hz=>(Fv.g.zA q hz).2 hq,fun h2=>(ap4 q h2).2.2 hq⟩
 have gA9:Good Z9 IS (hA (m8 (tell m pre) y) (f++pre++[y])).get W7 B0 O:=Ty.part (fun q hq=>(X2.zA q hq).2) Fv.g fA4 (fun _ _ h=>h) WI.iR
 obtain⟨fA9,_⟩:=Ty.free fA4 fun _ _ h=>h
 have ap9:fP (Own WH (hB x d (ph d y)).get) Z9 (Own IS (hA (m8 (tell m pre) y) (f++pre++[y])).get) W7:=fun q hq=>⟨WI.bw hq,fun hz=>(WI.zA q hz).2 hq,fun h2=>(fA9 q h2).2.2 hq⟩
 have sm9:b4 Z4 W4 W7:=Ty.same X2.zA fun _ _ h=>h
 have s9:Sl tm Z9 IS (hA (m8 (tell m pre) y) (f++pre++[y])).get W7:=⟨Fv.s.n,Fv.s.t4.less X3.eP sm9 fun i hi=>⟨hi,rfl⟩,Fv.s.t7.less X3.eP sm9 fun i hi=>⟨hi,rfl⟩⟩
 have trB:Tr (·=l) Z1 (fun q=>Own rH (hA m f).get q∨Own w8 (hU x d).get q) W1 Z1 (fun q=>Own rH (hA m f).get q∨Own w8 (hU x d).get q) W1:=Tr.refl
 have X4:Tr (·=l) Z (fun q=>Own rH (hA m f).get q∨Own w8 (hU x d).get q) W1 Z9 (fun q=>Own IS (hA (m8 (tell m pre) y) (f++pre++[y])).get q∨Own WH (hB x d (ph d y)).get q) W7 :=
  (bt.tr.trans (Fv.tr.beside _)).trans ((Ty.beside (Own IS (hA (m8 (tell m pre) y) (f++pre++[y])).get)).less (fun q h=>h.symm) (fun q h=>h.symm) (fun _ h=>h.elim))
 have fl4:fP (·=l) Z4 (fun q=>Own IS (hA (m8 (tell m pre) y) (f++pre++[y])).get q∨Own yd (hB x d y).get q) W4:=fun q hq=>by
  have hq:q=l:=hq
  subst hq
  have h0:=bt.fl q rfl
  refine⟨Nat.lt_of_lt_of_le h0.1 Fv.tr.size,fun hz=>?_,fun ho=>?_⟩
  ·rcases Fv.tr.dF q hz with e|e|e
   ·exact h0.2.1 e
   ·exact h0.2.2 (.inl e)
   ·have:=h0.1;omega
  ·rcases ho with ho|ho
   ·rcases Fv.tr.own q ho with e|e
    ·exact h0.2.2 (.inl e)
    ·have:=h0.1;omega
   ·exact h0.2.2 (.inr ho)
 obtain⟨WJ,hl9⟩:=(Ty.beside (Own IS (hA (m8 (tell m pre) y) (f++pre++[y])).get)).free (X:=(·=l)) (fun q hq=>⟨(fl4 q hq).1,(fl4 q hq).2.1,fun h=>(fl4 q hq).2.2 h.symm⟩) fun _ _ h=>h
 have a8z:a8.tmps.getD 0 undef=.func (.yield l) #[] #[]:=(k8 0 (by simp)).trans ((k6 0 (by simp)).trans ((other 0 (by decide) (by decide) (by decide)).trans bt.a0))
 have WK:W7.heap[l]? = some (.loop (mj .ready fn tm D)):=(hl9 l rfl).trans Fv.l
 have Sx:a8.eval (.tmp 22)=.bool (((((ph d y).1.1==x.1.1)&&((ph d y).1.2==x.1.2))&&((ph d y).2==x.2))):=t9.rep 22
 have WL:m8 (tell m pre) y=tell m (pre++[y]):=(KB m pre y).symm
 have aaR:f++pre++[y]=f++(pre++[y]):=List.append_assoc _ _ _
 rw[WL,aaR]at gA9 ap9 s9 X4 WJ
 have hp:Path (ph d) (pre++y::rest) x:=by rw[←lk,X0];exact hcy
 have hpy:ph d y=rest.head?.getD x:=(Path.app.1 hp).2.1
 rw[EI]at Sx
 cases rest with
 |nil =>
  have e:ph d y=x:=hpy
  refine wpIn_cond_true (Sx.trans (congrArg Value.bool (decide_eq_true e))) (wpIn_ret ?_)
  have wh:(results Tryz.f254 a8.tmps).run Tryz.prog W7=.ok (.tuple #[]) W7:=by
   have hr:Tryz.f254.results=#[]:=by kernel_rfl
   exact results_none hr _ _ _
  refine⟨t9.defers,_,wh,⟨_,rfl⟩,Z9,IS,?_⟩
  rw[lk]
  exact⟨gA9,s9,WK,X4.less (fun _ h=>h) (fun q h=>.inl h) fun _ h=>h⟩
 |cons y' r =>
  have e:ph d y=y':=hpy
  have aV:ph d y≠x:=fun k=>by
   rw[X0]at lk
   have Sy:=Db
   rw[lk]at Sy
   have h1:x∈pre++[y]:=by
    cases pre with
    |nil=>simp at lk;simp[lk.1]
    |cons q t=>simp at lk;simp[lk.1]
   rw[show pre++y::y'::r=(pre++[y])++y'::r by simp]at Sy
   exact(List.nodup_append.1 Sy).2.2 x h1 y' List.mem_cons_self (k.symm.trans e)
  refine wpIn_cond_false (Sx.trans (congrArg Value.bool (decide_eq_false aV))) (wpIn_skip ?_)
  rw[e]at WI ap9 X4 WJ t9
  refine⟨r.length,by simp,pre++[y],y',r,Z9,IS,WH,true,by rw[lk];simp,rfl,⟨gA9,WI,ap9,s9,WK,fun q hq=>⟨(WJ q hq).1,(WJ q hq).2.1,fun h=>(WJ q hq).2.2 h.symm⟩,X4,a8z,Nat.le_trans hB4 Ty.size⟩,?_⟩
  refine dL (fun p hp=>?_) t9.size t9.defers
  have hp:p∈[(5,AV.bool true),(1,AV.ref 20002 0 0 0),(2,AV.ref 20003 0 0 0),(4,AV.ref 20004 0 0 0)]:=hp
  simp only[List.mem_cons,List.not_mem_nil,or_false]at hp
  rcases hp with rfl|rfl|rfl|rfl
  ·exact t9.rep 5
  ·exact t9.rep 1
  ·exact t9.rep 2
  ·exact t9.rep 4
end Go.Vs
namespace Go.Vs
open Go.Proofs Go.Cy
variable {Z Z' Z0:Nat→Prop} {ψ ψ' ψ0 rH w8:Nat→Value} {h h':Hp} {w w' w0:World} {B0:Nat} {O N:Nat→Prop}
abbrev Aj:Nat→Prop:=fun _=>False
def Oo(D:Nat):Deferred:={ target:=.collected D,args:=#[] }
structure X5(Z0:Nat→Prop)(w0:World)(Ds:List Nat)(sh:Shape)(x:sh.T)(a:Act)(W:World)(a0:Act)(Z:Nat→Prop)(ψ:Nat→Value):Prop where
 e:a=j7 (Ds.map Oo) a0
 wk:Wk Z0 w0 Aj Z W
 g:Good Z ψ (ai sh x).heap.get W w0.heap.size Aj
 t:cx Z ψ (ai sh x).heap.get W 36 (look (ai sh x).tmps) a0
 nd:Ds.Nodup
 m:∀D,D∈Ds→W.heap[D]? = some (.deferred (some []))∧w0.heap.size≤D
 fr:fP (·∈Ds) Z (Own ψ (ai sh x).heap.get) W
def Ms(Z0:Nat→Prop)(w0:World)(Ds:List Nat)(sh:Shape)(x:sh.T)(a:Act)(W:World):Prop:=∃a0 Z ψ,X5 Z0 w0 Ds sh x a W a0 Z ψ
variable {Ds:List Nat} {sh sh':Shape} {x:sh.T} {x':sh'.T} {a:Act} {W:World}
theorem C6{c:Code}{R:Type}{kk:St→Option R}{y:R}(hx:rn F1 36 [] c (ai sh x) kk=some y)(n:Nat){a0:Act}(s:X5 Z0 w0 Ds sh x a W a0 Z ψ) :
  c.wpIn (FW none) n Tryz.prog (Aft 36 [] (fun d=>a0.tmps.getD d undef) (Ds.map Oo) kk y Z W (Own ψ (ai sh x).heap.get) ψ) a W:=by
 rw[s.e]
 exact dq ot hx none n _ (Good.start s.g) s.t
theorem HC{st:St}{a1:Act}{W':World}(s:X5 Z0 w0 Ds sh x a W a1 Z ψ)(sS:cj sh' st=some x'){ψ':Nat→Value}{Z':Nat→Prop}{a2:Act}(ok:Ok Z W (Own ψ (ai sh x).heap.get) ψ Z' ψ' st.heap.get W')(t:cx Z' ψ' st.heap.get W' 36 (look st.tmps) a2):Ms Z0 w0 Ds sh' x' (j7 (Ds.map Oo) a2) W':=by
 obtain⟨Z2,dx,Ai,t2⟩:=fi sS ok t
 obtain⟨f1,f2⟩:=(Ai.tr (L:=Aj)).free s.fr fun _ _ h=>h
 exact⟨a2,Z2,dx,rfl,s.wk.step (Ai.tr (L:=Aj)) s.g.from (fun _ h=>h.elim),Ai.Hz s.g s.wk.size,t2,s.nd,fun D hD=>⟨(f2 D hD).trans (s.m D hD).1,(s.m D hD).2⟩,f1⟩
theorem zX{c:Code}(hx:rn F1 36 [] c (ai sh x) (cj sh')=some x')(n:Nat)(s:Ms Z0 w0 Ds sh x a W):c.wpIn (FW none) n Tryz.prog (fun e a' W'=>e=.normal∧Ms Z0 w0 Ds sh' x' a' W') a W:=by
 obtain⟨a0,Z,ψ,s⟩:=s
 refine wpIn_mono (C6 hx n s) ?_
 rintro e a1 W1 ⟨rfl,a2,rfl,_,st,Z1,mo,sS,ok,t⟩
 exact⟨rfl,HC s sS ok t⟩
theorem IT{c c':Code}(hx:(rn F1 36 [] c (ai sh x) fun st=>rn F1 36 [] c' st (cj sh'))=some x')(n:Nat)(s:Ms Z0 w0 Ds sh x a W) :
  c.wpIn (FW none) n Tryz.prog (fun e a' W'=>e=.normal∧c'.wpIn (FW none) n Tryz.prog (fun e a' W'=>e=.normal∧Ms Z0 w0 Ds sh' x' a' W') a' W') a W:=by
 obtain⟨a0,Z,ψ,s⟩:=s
 refine wpIn_mono (C6 hx n s) ?_
 rintro e a1 W1 ⟨rfl,a2,rfl,_,st,Z1,mo,sS,ok,t⟩
 refine⟨rfl,wpIn_mono (dq ot sS none n _ ok t) ?_⟩
 rintro e a3 W3 ⟨rfl,a4,rfl,_,st3,Z3,Lv,Sz,PU,t3⟩
 exact⟨rfl,HC s Sz PU t3⟩
abbrev hC(d:ak)(out:List (List ab))(l:List ab):Heap:=[(20004,.box 41 (enc oC d))]++o6 rws ((out,(l,())):FV (rws.map (·.2.2)))
theorem xa{i:Nat}{v:Value}(hr:ao Z ψ h w (.bp i) v)(hi:h' i≠none→h i≠none∧ψ' i=ψ i):ao Z' ψ' h' w' (.bp i) v:=by
 simp only[ao]at hr ⊢
 exact⟨hr.1,fun k=>by obtain⟨k1,k2⟩:=hi k;rw[k2];exact hr.2 k1⟩
theorem zY{m:Tm}{f:List ab}{i:Nat}(h:(hA m f).get i≠none):i=20000∨i=9000∨i=20001∨i=9016:=by
 have e:hA m f=[(20000,.box 224 [.bp 9000]),(9000,.own (.map b7 .bool) m),(20001,.box 50 [.bp 9016]),(9016,.own (.row 33 b7) f)]:=rfl
 rw[e]at h
 simp only[Heap.get]at h
 by_cases h1:20000=i
 ·exact .inl h1.symm
 by_cases h2:9000=i
 ·exact .inr (.inl h2.symm)
 by_cases h3:20001=i
 ·exact .inr (.inr (.inl h3.symm))
 by_cases h4:9016=i
 ·exact .inr (.inr (.inr h4.symm))
 rw[if_neg h1,if_neg h2,if_neg h3,if_neg h4]at h
 exact absurd rfl h
theorem C7{x:ab}{d:ak}{i:Nat}(h:(hU x d).get i≠none):i=20002∨i=20003:=by
 have e:hU x d=[(20002,.box 33 (enc b7 x)),(20003,.box 41 (enc oC d))]:=rfl
 rw[e]at h
 simp only[Heap.get]at h
 by_cases h1:20002=i
 ·exact .inl h1.symm
 by_cases h2:20003=i
 ·exact .inr h2.symm
 rw[if_neg h1,if_neg h2]at h
 exact absurd rfl h
theorem zZ{d:ak}{out:List (List ab)}{l:List ab}{i:Nat}(h:(hC d out l).get i≠none):i=20004∨i=31000∨i=31001:=by
 have e:hC d out l=[(20004,.box 41 (enc oC d)),(31000,.own (.row 50 (.sl b7)) out),(31001,.own (.row 33 b7) l)]:=rfl
 rw[e]at h
 simp only[Heap.get]at h
 by_cases h1:20004=i
 ·exact .inl h1.symm
 by_cases h2:31000=i
 ·exact .inr (.inl h2.symm)
 by_cases h3:31001=i
 ·exact .inr (.inr h3.symm)
 rw[if_neg h1,if_neg h2,if_neg h3]at h
 exact absurd rfl h
theorem vl{a b:Heap}{i:Nat}{o:Ob}(h:a.get i=some o):(a++b).get i=some o:=by rw[Heap.get_append,h]
theorem qK{a b:Heap}{i:Nat}(h:a.get i=none):(a++b).get i=b.get i:=by rw[Heap.get_append,h]
theorem C8{h:Hp}{i:Nat}(k:h i≠none→False):h i=none:=by
 cases e:h i with
 |none=>rfl
 |some _=>exact(k (by rw[e];simp)).elim
theorem z5{a b c:Heap}(g:Good Z ψ c.get w B0 O)(sa:∀i o,a.get i=some o→c.get i=some o)(sb:∀i o,b.get i=some o→c.get i=some o)(Wy:∀i,a.get i≠none→b.get i≠none→False):fP (Own ψ b.get) Z (Own ψ a.get) w:=by
 have up:∀{e:Heap} (se:∀i o,e.get i=some o→c.get i=some o) {i},e.get i≠none→c.get i≠none:=fun {e} se {i} hi=>by
  obtain⟨o,ho⟩:=Option.ne_none_iff_exists'.1 hi
  rw[se i o ho];simp
 rintro q ⟨i,h1,h2⟩
 refine⟨g.bw ⟨i,up sb h1,h2⟩,(g.live i q (up sb h1) h2).1,?_⟩
 rintro⟨j,h3,h4⟩
 have e:=g.apart i j q (up sb h1) (up sa h3) h2 h4
 subst e
 exact Wy i h3 h1
end Go.Vs
namespace Go.Vs
open Go.Proofs Go.Cy
variable {Z Z' Z0:Nat→Prop} {ψ ψ' ψ0 rH w8:Nat→Value} {h h':Hp} {w w' w0:World} {B0:Nat} {O N:Nat→Prop}
variable {Ds:List Nat} {a:Act} {W:World}
abbrev x3(n i:Int)(m:Tm)(f:List ab)(x:ab)(d:ak)(out:List (List ab))(l:List ab):S3.T:=((n,(i,())),(((m,()),((f,()),((x,()),((d,()),((d,()),()))))),(out,(l,()))))
abbrev x12(n i:Int)(m:Tm)(f:List ab)(d:ak)(out:List (List ab))(l:List ab):S12.T:=((n,(i,())),(((m,()),((f,()),((d,()),()))),(out,(l,()))))
set_option maxRecDepth 20000 in
theorem NF(k:Nat){n i:Int}{m:Tm}{x:ab}{d:ak}{out:List (List ab)}{l:List ab}(wf:Wf d)(hx:x∈aq d.1)(s:Ms Z0 w0 Ds S3 (x3 n i m [] x d out l) a W) :
  cRF.wpIn (FW none) k Tryz.prog (fun e a' W'=>e=.normal∧Ms Z0 w0 (W.heap.size::Ds) S12 (x12 n i (tell m (aW d x)) (aW d x) d out l) a' W') a W:=by
 obtain⟨a0,Z,ψ,s⟩:=s
 have hH:(ai S3 (x3 n i m [] x d out l)).heap=hA m []++(hU x d++hC d out l):=rfl
 have hg:=s.g
 have Bf:=s.fr
 have ht:=s.t
 rw[hH]at hg Bf ht
 have sA:∀j o,(hA m []).get j=some o→(hA m []++(hU x d++hC d out l)).get j=some o:=fun j o e=>vl e
 have nA:∀{j},j=20002∨j=20003∨j=20004∨j=31000∨j=31001→∀m f,(hA m f).get j=none:=fun {j} hj m f=>C8 fun e=>by have:=zY e;omega
 have nU:∀{j},j=20004∨j=31000∨j=31001→(hU x d).get j=none:=fun {j} hj=>C8 fun e=>by have:=C7 e;omega
 have sU:∀j o,(hU x d).get j=some o→(hA m []++(hU x d++hC d out l)).get j=some o:=fun j o e=>by
  have:=C7 (show(hU x d).get j≠none by rw[e];simp)
  rw[qK (nA (by omega) m []),vl e]
 have sC:∀j o,(hC d out l).get j=some o→(hA m []++(hU x d++hC d out l)).get j=some o:=fun j o e=>by
  have:=zZ (show(hC d out l).get j≠none by rw[e];simp)
  rw[qK (nA (by omega) m []),qK (nU (by omega)),e]
 have gA:=hg.sub sA
 have gU:=hg.sub sU
 have gC:=hg.sub sC
 have fUA:fP (Own ψ (hU x d).get) Z (Own ψ (hA m []).get) W:=z5 hg sA sU fun j h1 h2=>by have:=zY h1;have:=C7 h2;omega
 have fCA:fP (Own ψ (hC d out l).get) Z (Own ψ (hA m []).get) W:=z5 hg sA sC fun j h1 h2=>by have:=zY h1;have:=zZ h2;omega
 have fCU:fP (Own ψ (hC d out l).get) Z (Own ψ (hU x d).get) W:=z5 hg sU sC fun j h1 h2=>by have:=C7 h1;have:=zZ h2;omega
 have Sx:=ht.rep 22
 have e22:look (ai S3 (x3 n i m [] x d out l)).tmps 22=.fn 254 [.ref 20002 0 0 0,.ref 20003 0 0 0]:=rfl
 rw[e22]at Sx
 simp only[ao,ah]at Sx
 obtain⟨ws,hv,px,_,Rx,rx,pd,_,rfl,rd,rfl⟩:=Sx
 have Rx:ws=#[px,pd]:=Array.ext' Rx
 subst Rx
 have less:∀{hp:Heap} {v:AV} {u:Value},(∀j o,hp.get j=some o→(hA m []++(hU x d++hC d out l)).get j=some o)→ao Z ψ (hA m []++(hU x d++hC d out l)).get W v u→ao Z ψ hp.get W v u:=fun {hp v u} hs hr=>hr.oI hs
 have rx:ao Z ψ (hU x d).get W (.ref 20002 0 0 0) px:=less sU (by simp only[ao];exact rx)
 have rd:ao Z ψ (hU x d).get W (.ref 20003 0 0 0) pd:=less sU (by simp only[ao];exact rd)
 have sl:Sl a0.tmps Z ψ (hA m []).get W:=⟨ht.size,less sA (ht.rep 4),less sA (ht.rep 7)⟩
 rw[s.e]
 refine wpIn_rangeFunc ?_
 intro fn _
 obtain⟨D,hD⟩:∃D,D=W.heap.size:=⟨_,rfl⟩
 obtain⟨W1,ni⟩:∃W1,W1=(W.alloc (.deferred (some []))).alloc (.loop (mj .ready fn a0.tmps D)):=⟨_,rfl⟩
 have gO:W1.heap.size=D+2:=by rw[ni,hD];simp
 have c8:∀b,b<W.heap.size→W1.heap[b]? = W.heap[b]? := fun b hb=>by
  rw[ni,heap_alloc_old _ _ (by rw[World.size_alloc];omega),heap_alloc_old _ _ hb]
 have hL1:W1.heap[D+1]? = some (.loop (mj .ready fn a0.tmps D)):=by
  have:=World.alloc_heap_new (W.alloc (.deferred (some []))) (.loop (mj .ready fn a0.tmps D))
  rw[World.size_alloc,←ni,←hD]at this
  exact this
 have hD1:W1.heap[D]? = some (.deferred (some [])):=by
  rw[ni,hD,heap_alloc_old _ _ (by rw[World.size_alloc];omega)]
  exact World.alloc_heap_new W _
 have lift:∀{hp:Heap} {ψ:Nat→Value},Good Z ψ hp.get W w0.heap.size Aj→Good Z ψ hp.get W1 w0.heap.size Aj:=fun {hp ψ} g=>g.same (fun _ h=>h) (fun b hb=>c8 b (hb.elim (g.iR b) g.bw)) (fun b hb hz=>(g.zA b hz).2 hb) fun b hb=>by have:=g.iR b hb;omega
 have SA:b4 Z W W1:=fun b hb=>c8 b (hg.iR b hb)
 have gA1:=lift gA
 have gU1:=lift gU
 have gC1:=lift gC
 have up:∀{X A:Nat→Prop},fP X Z A W→fP X Z A W1:=fun {X A} f b hb=>⟨by have:=(f b hb).1;omega,(f b hb).2⟩
 have sl1:Sl a0.tmps Z ψ (hA m []).get W1:=⟨sl.n,sl.t4.less (fun _ h=>h) SA fun j hj=>⟨hj,rfl⟩,sl.t7.less (fun _ h=>h) SA fun j hj=>⟨hj,rfl⟩⟩
 have fresh:∀{hp:Heap} {b:Nat},Good Z ψ hp.get W w0.heap.size Aj→W.heap.size≤b→¬Z b∧¬Own ψ hp.get b:=fun {hp b} g hb=>⟨fun hz=>by have:=g.iR b hz;omega,fun ho=>by have:=g.bw ho;omega⟩
 have fl0:∀b,D≤b→b<D+2→b<W1.heap.size∧¬Z b∧¬(Own ψ (hA m []).get b∨Own ψ (hU x d).get b):=fun b h1 h2 =>
  ⟨by omega,(fresh gA (by omega)).1,fun h=>h.elim (fresh gA (by omega)).2 (fresh gU (by omega)).2⟩
 have fl1:fP (·=D+1) Z (fun b=>Own ψ (hA m []).get b∨Own ψ (hU x d).get b) W1:=fun b hb=>fl0 b (by omega) (by omega)
 have hlen:([]:List ab).length+(aW d x).length≤eL:=by have:=J2 d x;unfold eL;simp;omega
 have it:=PT (k-1) wf hx gA1 gU1 (up fUA) (by rw[gO,hD];have:=s.wk.size;omega) sl1
  (rx.less (fun _ h=>h) SA fun j hj=>⟨hj,rfl⟩) (rd.less (fun _ h=>h) SA fun j hj=>⟨hj,rfl⟩) hL1 fl1 hlen
 refine⟨D+1,[Oo D],W1,{ target:=.fn (.func 254) #[px,pd],args:=#[.func (.yield (D+1)) #[] #[]] },W1,254,#[.func (.yield (D+1)) #[] #[],px,pd],W1,?_,?_,fun _ _=>trivial,?_,fun h=>(by cases h),?_⟩
 ·rw[ni,hD];exact run_enterLoop_outer _ _ _ _ _
 ·rw[sF]
  have xJ:a0.eval (.tmp 22)=.func (.func 254) #[] #[px,pd]:=hv
  simp only[Go.resolve,xJ]
  simp[go_sem]
 ·show(callFunc 254 (#[.func (.yield (D+1)) #[] #[]]++#[px,pd])).run _ _=_
  have hc:GR [(254,KA)]=true:=by kernel_rfl
  exact iq (wX hc (g:=KA) (f:=254) (by simp)) _
 refine it.mono ?_
 rintro e W2 ⟨⟨v,rfl⟩,Z2,dx,KC⟩
 refine⟨none,_,run_endLoop KC.hl (by simp[mj]),rfl,?_⟩
 have tA:∀{X},fP X Z (fun b=>Own ψ (hA m []).get b∨Own ψ (hU x d).get b) W1→fP X Z2 (Own dx (hA (tell m (aW d x)) ([]++aW d x)).get) W2:=fun {X} f=>KC.tr.Fq f
 rw[List.nil_append]at KC
 have fC1:fP (Own ψ (hC d out l).get) Z (fun b=>Own ψ (hA m []).get b∨Own ψ (hU x d).get b) W1:=fun b hb=>⟨(up fCA b hb).1,(up fCA b hb).2.1,fun h=>h.elim (fCA b hb).2.2 (fCU b hb).2.2⟩
 have cD:∀b,Own ψ (hC d out l).get b→b<D:=fun b hb=>by rw[hD];exact gC.bw hb
 have zD:∀b,Z b→b<D:=fun b hb=>by rw[hD];exact hg.iR b hb
 have WE:=KC.gA
 have gC2:Good Z2 ψ (hC d out l).get W2 w0.heap.size Aj:=KC.tr.part (fun b hb h=>h.elim (gA.zA b hb).2 (gU.zA b hb).2) gC1 fC1 (fun b hb e=>by rcases hb with hb|hb;have:=zD b hb;omega;have:=cD b hb;omega) WE.iR
 have apC:fP (Own ψ (hC d out l).get) Z2 (Own dx (hA (tell m (aW d x)) (aW d x)).get) W2:=KC.tr.Fq fC1
 have KW:fP (·=D+1) Z2 (Own dx (hA (tell m (aW d x)) (aW d x)).get) W2:=KC.tr.Fq fl1
 have flC:fP (·=D+1) Z2 (Own ψ (hC d out l).get) W2:=fun b hb=>⟨(KW b hb).1,(KW b hb).2.1,fun h=>by have:=cD b h;have hb:b=D+1:=hb;omega⟩
 have gA3:=WE.putObj (o':=.loop { mj .ready fn a0.tmps D with state:=.exhausted }) KW
 have gC3:=gC2.putObj (o':=.loop { mj .ready fn a0.tmps D with state:=.exhausted }) flC
 obtain⟨W3,Q5⟩:∃W3,W3=W2.putObj (D+1) (.loop { mj .ready fn a0.tmps D with state:=.exhausted }):=⟨_,rfl⟩
 rw[←Q5]at gA3 gC3 ⊢
 have sm3:b4 Z2 W2 W3:=by rw[Q5];exact lU KW
 have WM:W3.heap.size=W2.heap.size:=by rw[Q5];simp
 have Wy:∀j,(hA (tell m (aW d x)) (aW d x)).get j≠none→(hC d out l).get j=none:=fun j hj=>C8 fun e=>by have:=zY hj;have:=zZ e;omega
 have apJ:∀q,Own dx (hA (tell m (aW d x)) (aW d x)).get q→¬Own ψ (hC d out l).get q:=fun q h1 h2=>(apC q h2).2.2 h1
 have gJ:=gA3.join gC3 Wy apJ (fun j ty cs hj=>by
  have e:=zY (show(hA (tell m (aW d x)) (aW d x)).get j≠none by rw[hj];simp)
  rcases e with rfl|rfl|rfl|rfl
  ·cases hj
   show aw _ [.bp 9000]
   simp only[aw,aC]
   exact⟨fun k=>(by cases k),trivial⟩
  ·cases hj
  ·cases hj
   show aw _ [.bp 9016]
   simp only[aw,aC]
   exact⟨fun k=>(by cases k),trivial⟩
  ·cases hj) (fun j ty cs hj=>by
  have e:=zZ (show(hC d out l).get j≠none by rw[hj];simp)
  rcases e with rfl|rfl|rfl
  ·cases hj;exact pY d _
  ·cases hj
  ·cases hj)
 have aaW:∀b,Own (oq (hA (tell m (aW d x)) (aW d x)).get dx ψ) (hA (tell m (aW d x)) (aW d x)++hC d out l).get b→Own dx (hA (tell m (aW d x)) (aW d x)).get b∨Own ψ (hC d out l).get b:=fun b ⟨j,h1,h2⟩=>by
  by_cases e:(hA (tell m (aW d x)) (aW d x)).get j=none
  ·rw[qK e]at h1
   rw[m0 e]at h2
   exact .inr ⟨j,h1,h2⟩
  ·rw[mZ e]at h2
   exact .inl ⟨j,e,h2⟩
 refine⟨a0,Z2,oq (hA (tell m (aW d x)) (aW d x)).get dx ψ,?_,?_,?_,?_,?_,?_,?_⟩
 ·show({ j7 (Ds.map Oo) a0 with defers:=[Oo D]++(j7 (Ds.map Oo) a0).defers }:Act)=j7 ((W.heap.size::Ds).map Oo) a0
  unfold j7
  rw[ht.defers,←hD];rfl
 ·have o1:∀q,(Own ψ (hA m []).get q∨Own ψ (hU x d).get q)→w0.heap.size≤q∨Aj q:=fun q h=>h.elim (gA.from q) (gU.from q)
  have w1:Wk Z0 w0 Aj Z W1:=s.wk.step (A:=fun q=>Own ψ (hA m []).get q∨Own ψ (hU x d).get q) (B:=fun q=>Own ψ (hA m []).get q∨Own ψ (hU x d).get q) (L:=Aj) (Tr.cK (by rw[ni];rfl) (by rw[ni];rfl) (by rw[ni];rfl) (by rw[gO,hD];omega) fun b hb _=>c8 b hb) o1 fun _ h=>h.elim
  have hDl:∀b,b=D+1→w0.heap.size≤b:=fun b hb=>by have:=s.wk.size;omega
  have w2:=w1.step KC.tr o1 hDl
  rw[Q5]
  exact w2.step vj WE.from hDl
 ·exact gJ
 ·have q1:∀{j},(j=20000∨j=20001)→(hA (tell m (aW d x)) (aW d x)).get j≠none:=fun {j} hj=>by rcases hj with rfl|rfl<;>(intro k;cases k)
  have rA:∀{j u},(j=20000∨j=20001)→ao Z2 dx (hA (tell m (aW d x)) (aW d x)).get W2 (.ref j 0 0 0) u→ao Z2 (oq (hA (tell m (aW d x)) (aW d x)).get dx ψ) (hA (tell m (aW d x)) (aW d x)++hC d out l).get W3 (.ref j 0 0 0) u:=fun {j u} hj hr =>
   C3 (fun _ h=>h) hr fun _=>⟨q1 hj,mZ (q1 hj)⟩
  have cN:∀{j},(j=20004∨j=31000∨j=31001)→(hA m []++(hU x d++hC d out l)).get j≠none∧oq (hA (tell m (aW d x)) (aW d x)).get dx ψ j=ψ j:=fun {j} hj=>by
   have e1:(hC d out l).get j≠none:=by rcases hj with rfl|rfl|rfl<;>(intro k;cases k)
   obtain⟨o,ho⟩:=Option.ne_none_iff_exists'.1 e1
   exact⟨by rw[sC _ _ ho];simp,m0 (nA (by omega) _ _)⟩
  refine dL (fun p hp=>?_) ht.size ht.defers
  have hp:p∈[(12,AV.int .i64 n),(13,AV.int .i64 i),(4,AV.ref 20000 0 0 0),(7,AV.ref 20001 0 0 0),(1,AV.ref 20004 0 0 0),(3,AV.bp 31000),(11,AV.bp 31001)]:=hp
  simp only[List.mem_cons,List.not_mem_nil,or_false]at hp
  rcases hp with rfl|rfl|rfl|rfl|rfl|rfl|rfl
  ·exact ht.rep 12
  ·exact ht.rep 13
  ·exact rA (.inl rfl) KC.s.t4
  ·exact rA (.inr rfl) KC.s.t7
  ·exact C3 (fun b hb=>KC.tr.eP b hb) (ht.rep 1) fun _=>cN (.inl rfl)
  ·exact xa (ht.rep 3) fun _=>cN (.inr (.inl rfl))
  ·exact xa (ht.rep 11) fun _=>cN (.inr (.inr rfl))
 ·refine List.nodup_cons.2 ⟨fun hm=>?_,s.nd⟩
  have:=(Bf _ hm).1;omega
 ·have keep:∀b,b<D+1→b<W1.heap.size→¬(Own ψ (hA m []).get b∨Own ψ (hU x d).get b)→W3.heap[b]? = W1.heap[b]? := fun b h1 h2 h3=>by
   rw[Q5,World.putObj_heap_other (by omega)]
   exact KC.tr.block b h2 h3 (by omega)
  intro q hq
  rcases List.mem_cons.1 hq with rfl|hq
  ·refine⟨?_,s.wk.size⟩
   rw[←hD]
   exact(keep D (by omega) (by omega) (fl0 D (by omega) (by omega)).2.2).trans hD1
  ·have h0:=Bf q hq
   refine⟨?_,(s.m q hq).2⟩
   have own:∀{hp:Heap},(∀j o,hp.get j=some o→(hA m []++(hU x d++hC d out l)).get j=some o)→¬Own ψ hp.get q:=fun {hp} hs ⟨j,h1,h2⟩=>h0.2.2 ⟨j,(by obtain⟨o,ho⟩:=Option.ne_none_iff_exists'.1 h1;rw[hs _ _ ho];simp),h2⟩
   rw[keep q (by omega) (by omega) (fun h=>h.elim (own sA) (own sU)),c8 q h0.1]
   exact(s.m q hq).1
 ·intro q hq
  have base:q<W1.heap.size∧¬Z q∧¬(Own ψ (hA m []).get q∨Own ψ (hU x d).get q)∧¬Own ψ (hC d out l).get q:=by
   rcases List.mem_cons.1 hq with rfl|hq
   ·have h1:=fl0 W.heap.size (by omega) (by omega)
    exact⟨h1.1,h1.2.1,h1.2.2,fun h=>by have:=cD _ h;omega⟩
   ·have h0:=Bf q hq
    have own:∀{hp:Heap},(∀j o,hp.get j=some o→(hA m []++(hU x d++hC d out l)).get j=some o)→¬Own ψ hp.get q:=fun {hp} hs ⟨j,h1,h2⟩=>h0.2.2 ⟨j,(by obtain⟨o,ho⟩:=Option.ne_none_iff_exists'.1 h1;rw[hs _ _ ho];simp),h2⟩
    exact⟨by omega,h0.2.1,fun h=>h.elim (own sA) (own sU),own sC⟩
  have h2:=KC.tr.Fq (X:=(·=q)) (fun b hb=>by have hb:b=q:=hb;subst hb;exact⟨base.1,base.2.1,base.2.2.1⟩) q rfl
  exact⟨by rw[WM];exact h2.1,h2.2.1,fun h=>(aaW q h).elim h2.2.2 base.2.2.2⟩
end Go.Vs
namespace Go.Vs
open Go.Proofs Go.Cy
variable {Z Z' Z0:Nat→Prop} {ψ ψ' ψ0 rH w8:Nat→Value} {h h':Hp} {w w' w0:World} {B0:Nat} {O N:Nat→Prop}
theorem vm{β α:Type}[DecidableEq β]{x z:β}{v:α}:∀{es:List (β×α)} {i:Nat},(es.findIdx? fun e=>decide (e.1=x))=some i→eE z (es.set i (x,v))=if x=z then some v else eE z es
 |[],i,h=>by simp at h
 |e::r,i,h=>by
  rw[List.findIdx?_cons]at h
  by_cases he:e.1=x
  ·rw[if_pos (decide_eq_true he)]at h
   cases h
   rw[List.set_cons_zero,eE,eE]
   show(if x=z then some v else eE z r)=_
   rw[he]
   by_cases k:x=z
   ·rw[if_pos k,if_pos k]
   ·rw[if_neg k,if_neg k,if_neg k]
  ·rw[if_neg (by simpa using he)]at h
   obtain⟨j,hj,rfl⟩:=Option.map_eq_some_iff.1 h
   have ih:=vm (z:=z) (v:=v) hj
   rw[List.set_cons_succ,eE,eE,ih]
   by_cases k:e.1=z
   ·rw[if_pos k,if_neg (fun q=>he (k.trans q.symm)),if_pos k]
   ·rw[if_neg k,if_neg k]
theorem vn{β α:Type}[DecidableEq β]{x z:β}{v:α}:∀{es:List (β×α)},(es.findIdx? fun e=>decide (e.1=x))=none→eE z (es++[(x,v)])=if x=z then some v else eE z es
 |[],_=>rfl
 |e::r,h=>by
  rw[List.findIdx?_eq_none_iff]at h
  have he:e.1≠x:=by have:=h e List.mem_cons_self;simpa using this
  have ih:=vn (z:=z) (v:=v) (es:=r) (List.findIdx?_eq_none_iff.2 fun q hq=>h q (List.mem_cons_of_mem _ hq))
  rw[List.cons_append,eE,eE,ih]
  by_cases k:e.1=z
  ·rw[if_pos k,if_neg (fun q=>he (k.trans q.symm)),if_pos k]
  ·rw[if_neg k,if_neg k]
theorem KD{α:Type}(x z:ab)(v:α)(es:List (ab×α)):eE z (lq b7 x v es)=if x=z then some v else eE z es:=by
 have e:=Hs x es
 unfold lq
 split
 ·rename_i i hi;exact vm (e.symm.trans hi)
 ·rename_i hi;exact vn (e.symm.trans hi)
def BV(m:Tm)(T:List ab):Prop:=∀z,(eE z m).getD false=decide (z∈T)
theorem BV.tell{m:Tm}{T:List ab}(h:BV m T)(l:List ab):BV (tell m l) (T++l):=by
 induction l generalizing m T with
 |nil=>rw[List.append_nil];exact h
 |cons y r ih =>
  have h1:BV (m8 m y) (T++[y]):=fun z=>by
   unfold m8
   rw[KD]
   by_cases k:y=z
   ·subst k;simp
   ·rw[if_neg k,h z]
    have:(z∈T++[y])↔z∈T:=by simp[Ne.symm k]
    rw[Bool.eq_iff_iff];simp[Ne.symm k]
  have:=ih h1
  rw[List.append_assoc]at this
  exact this
theorem NG{m:Tm}{T:List ab}(h:BV m T)(y:ab):(ia b7 (y.1,y.2) m).getD false=decide (y∈T):=by
 have:=Nv y m
 show(ia b7 y m).getD false=_
 rw[this];exact h y
abbrev x0(n i:Int)(m:Tm)(d:ak)(out:List (List ab))(l:List ab):S0.T:=((n,(i,())),(((m,()),((d,()),())),(out,(l,()))))
theorem IU{Ds:List Nat}{sh:Shape}{x:sh.T}{a:Act}{W:World}(s:Ms Z0 w0 Ds sh x a W){i:Nat}{b:Bool}(e:look (ai sh x).tmps i=.bool b):a.eval (.tmp i)=.bool b:=by
 obtain⟨a0,Z,ψ,s⟩:=s
 have:=s.t.rep i
 rw[e]at this
 rw[s.e,sF]
 exact this
theorem tY{n:Nat}{fn:Func}{tmps:Array Value}{R:Ending→World→Prop}:∀(Ds:List Nat) (W:World),Ds.Nodup→(∀D,D∈Ds→W.heap[D]? = some (.deferred (some []))) →
  (∀W',W'.os=W.os→W'.tape=W.tape→W'.output=W.output→W'.heap.size=W.heap.size→(∀b,b∉Ds→W'.heap[b]? = W.heap[b]?)→∃v,(results fn tmps).run Tryz.prog W'=.ok v W'∧R (.returned v) W') →
  LeavesInM (FW none) n Tryz.prog fn tmps R (Ds.map Oo) .returning W
 |[],W,_,_,h=>h W rfl rfl rfl rfl fun _ _=>rfl
 |D::Ds,W,hn,hd,h=>by
  obtain⟨h1,h2⟩:=List.nodup_cons.1 hn
  refine⟨by simp,.inl ⟨D,_,rfl,run_takeDeferred (hd D List.mem_cons_self),?_⟩⟩
  refine tY Ds _ h2 (fun E hE=>?_) fun W' e1 e2 e3 e4 e5=>?_
  ·rw[World.putObj_heap_other (fun e:E=D=>h1 (by rw[←e];exact hE))]
   exact hd E (List.mem_cons_of_mem _ hE)
  ·refine h W' e1 e2 e3 (e4.trans (by simp)) fun b hb=>?_
   rw[e5 b (fun k=>hb (List.mem_cons_of_mem _ k))]
   exact World.putObj_heap_other fun e:b=D=>hb (by rw[e];exact List.mem_cons_self)
abbrev SN:Shape:=⟨[(0,oC)],[],[],[]⟩
theorem KE{d:ak}(wf:Wf d):A5 Tryz.prog 240 vU ((d,()),()) ((dM d,()),()):=by
 intro Z ψ0 w jC hg hr
 have hr:ah Z ψ0 (Heap.get []) w [bX oC d] jC:=hr
 have hg:Good Z ψ0 (Heap.get []) w w.heap.size (Own ψ0 (Heap.get [])):=hg
 have z6:∀b,¬Own ψ0 (Heap.get []) b:=fun b ⟨i,h1,_⟩=>h1 rfl
 simp only[ah]at hr
 obtain⟨u0,_,rfl,hu,rfl⟩:=hr
 refine tX (r:=none) (n:=5) (callsIn_of_wp_marks Tryz.func240 PQ trivial ?_ rfl)
 obtain⟨w9,Fu⟩:∃t:Array Value,t=#[u0]++Array.replicate (Tryz.f240.ntmps-(#[u0]:Array Value).size) undef:=⟨_,rfl⟩
 show Code.wpIn _ _ _ _ _ { tmps:=#[u0]++Array.replicate (Tryz.f240.ntmps-(#[u0]:Array Value).size) undef,defers:=[] } w
 rw[←Fu]
 have Sw:w9.size=36:=by rw[Fu,Tryz.ntmps240];simp
 have e0:w9.getD 0 undef=u0:=by rw[Fu];simp
 have ms0:X5 Z w [] SN ((d,()),((),())) { tmps:=w9,defers:=[] } w { tmps:=w9,defers:=[] } Z ψ0:=by
  refine⟨rfl,Wk.start Z w Aj,hg.Nz fun b h _=>(z6 b h).elim,dL (fun p hp=>?_) Sw rfl,List.nodup_nil,fun D hD=>(by cases hD),fun D hD=>(by cases hD)⟩
  have hp:p∈[(0,bX oC d)]:=hp
  simp only[List.mem_cons,List.not_mem_nil,or_false]at hp
  subst hp
  show ao _ _ _ _ _ (w9.getD 0 undef)
  rw[e0];exact hu
 have aaX:F1 249 tx ((d,()),())=some ((iC d.2,()),()):=NA rfl (Wr hg0 d wf.sm)
 have hn:=(aaD F1 d).trans (aa aaX rfl)
 refine wpIn_seq (wpIn_mono (C6 hn 5 ms0) ?_)
 rintro e a1 W1 ⟨rfl,a2,rfl,_,gF,Z1,mo,q1,PS,t1⟩
 refine wpIn_seq (wpIn_mono (dq ot q1 none 5 _ PS t1) ?_)
 rintro e a3 W3 ⟨rfl,a4,rfl,_,st2,Z2,dx,q2,Ai,t2⟩
 refine wpIn_seq (wpIn_mono (dq ot q2 none 5 _ Ai t2) ?_)
 rintro e a5 W5 ⟨rfl,a6,rfl,_,st3,Z3,Lv,q3,PU,t3⟩
 refine wpIn_seq (wpIn_seq (wpIn_mono (dq ot q3 none 5 _ PU t3) ?_))
 rintro e a7 W7 ⟨rfl,a8,rfl,_,st4,Z4,yd,q4,Sq,t4⟩
 have ms:=HC ms0 q4 Sq t4
 clear q1 q2 q3 q4 PS Ai PU Sq t1 t2 t3 t4
 obtain⟨l,hl⟩:∃l,l=iC d.2:=⟨_,rfl⟩
 rw[←hl]at ms
 have hll:l.length≤80:=by rw[hl,pS];have:=wf.ne;omega
 have iu:∀y,y∈l→y∈aq d.1:=fun y hy=>by rw[hl,kf]at hy;exact wf.pd.mem_iff.2 hy
 refine wpIn_block ?_
 refine C5 (fun k a W=>∃(i:Nat) (m:Tm) (out:List (List ab)) (T:List ab) (Ds:List Nat),i≤l.length∧k=l.length-i∧out.length≤i∧Ms Z w Ds S0 (x0 ((l.length:Nat):Int) (i:Int) m d out l) a W∧jx d (l.drop i) out T=dM d∧BV m T)
  (k:=l.length) ⟨0,[],[],[],[],Nat.zero_le _,rfl,Nat.le_refl _,ms,by rw[List.drop_zero,hl];rfl,fun z=>by simp[eE]⟩ ?_
 rintro k a W ⟨i,m,out,T,Ds,hi,rfl,ho,ms,FJ,ht⟩
 refine wpIn_seq (wpIn_mono (zX (n4 F1 ((l.length:Nat):Int) (i:Int) _) 5 ms) ?_)
 rintro e a1 W1 ⟨rfl,ms1⟩
 have Qp:=IU ms1 (i:=14) rfl
 by_cases aE:i<l.length
 case neg =>
  have e:i=l.length:=by omega
  have ef:decide ((i:Int)<((l.length:Nat):Int))=false:=decide_eq_false (by omega)
  rw[ef]at Qp
  refine wpIn_seq (wpIn_cond_false Qp (wpIn_exit ?_))
  show Code.wpIn _ _ _ _ _ _ _
  refine wpIn_seq (wpIn_mono (zX (n14 F1 _ _ _ m d out l) 5 ms1) ?_)
  rintro e a2 W2 ⟨rfl,ms2⟩
  refine wpIn_ret ?_
  obtain⟨a0,Z2,dx,s⟩:=ms2
  rw[e,List.drop_eq_nil_of_le (Nat.le_refl _)]at FJ
  have FJ:out=dM d:=FJ
  rw[s.e]
  show LeavesInM _ _ _ _ a0.tmps _ (a0.defers++Ds.map Oo) .returning W2
  rw[s.t.defers,List.nil_append]
  refine tY Ds W2 s.nd (fun D hD=>(s.m D hD).1) fun W3 e1 e2 e3 e4 e5=>?_
  have wh:Tryz.f240.results=#[.tmp 2]:=by kernel_rfl
  have nZ:∀b,Z2 b∨Own dx (ai SE ((),((),(out,())))).heap.get b→b∉Ds:=fun b hb hD=>by
   have:=s.fr b hD
   exact hb.elim this.2.1 this.2.2
  have g3:Good Z2 dx (ai SE ((),((),(out,())))).heap.get W3 w.heap.size Aj:=s.g.same (fun _ h=>h) (fun b hb=>e5 b (nZ b hb)) (fun b hb hz=>(s.g.zA b hz).2 hb) fun b hb=>by rw[e4];exact s.g.iR b hb
  have k3:Wk Z w Aj Z2 W3:=⟨s.wk.eP,s.wk.dF,e1.trans s.wk.os,e2.trans s.wk.tape,e3.trans s.wk.output,by rw[e4];exact s.wk.size,fun b hb ho=>by
   rw[e5 b (fun hD=>by have:=(s.m b hD).2;omega)]
   exact s.wk.block b hb ho⟩
  refine⟨_,results_tmp wh _ _ _,_,Z2,dx,rfl,k3.eP,fun b hb=>?_,⟨k3.os,k3.tape,k3.output,k3.size,fun b hb _=>k3.block b hb fun h=>h⟩,?_,fun i hi=>(by cases hi),?_⟩
  ·rcases k3.dF b hb with h|h|h
   ·exact .inl h
   ·exact h.elim
   ·exact .inr (.inr h)
  ·rw[FJ]at g3
   exact g3.Nz fun b _ hb=>hb.elim .inl fun h=>h.elim
  ·have r2:=s.t.rep 2
   have:ao Z2 dx (ai SE ((),((),(out,())))).heap.get W2 (.bp 3000) (a0.tmps.getD 2 undef):=r2
   rw[FJ]at this
   simp only[ao]at this
   show ao Z2 dx _ W3 (.bp 3000) _
   simp only[ao]
   exact this
 have et:decide ((i:Int)<((l.length:Nat):Int))=true:=bG aE
 rw[et]at Qp
 refine wpIn_seq (wpIn_cond_true Qp (wpIn_skip ?_))
 refine wpIn_seq (wpIn_block (wpIn_seq ?_))
 have hy:=iu l[i] (List.getElem_mem aE)
 have h5:=(n5 F1 (decide ((i:Int)<((l.length:Nat):Int))) ((l.length:Nat):Int) (i:Int) m d out l).trans (ae (dD (jP i) (bG aE)) (aa (a:=l[i]) (by rw[Int.toNat_natCast];exact List.getElem?_eq_getElem aE) rfl))
 refine wpIn_mono (IT h5 5 ms1) ?_
 rintro e a2 W2 ⟨rfl,hc⟩
 refine wpIn_seq (wpIn_seq (wpIn_mono hc ?_))
 rintro e a3 W3 ⟨rfl,ms3⟩
 have Tz:=IU ms3 (i:=19) rfl
 rw[NG ht]at Tz
 have IH:l.drop i=l[i]::l.drop (i+1):=List.drop_eq_getElem_cons aE
 rw[IH,jx]at FJ
 by_cases hT:l[i]∈T
 ·rw[if_pos hT]at FJ
  refine wpIn_cond_true (Tz.trans (congrArg Value.bool (decide_eq_true hT))) (wpIn_exit ?_)
  show Code.wpIn _ _ _ _ _ _ _
  refine wpIn_mono (zX (aaE F1 _ _ _ m d l[i] out l) 5 ms3) ?_
  rintro e a4 W4 ⟨rfl,ms4⟩
  have ew:=aP aE (by omega)
  rw[ew]at ms4
  exact⟨l.length-(i+1),by omega,i+1,m,out,T,Ds,by omega,rfl,by omega,ms4,FJ,ht⟩
 rw[if_neg hT]at FJ
 refine wpIn_cond_false (Tz.trans (congrArg Value.bool (decide_eq_false hT))) (wpIn_skip ?_)
 refine wpIn_seq (wpIn_mono (IT (n7 F1 _ _ _ m d l[i] out l) 5 ms3) ?_)
 rintro e a4 W4 ⟨rfl,hc⟩
 refine wpIn_seq (wpIn_seq (wpIn_mono hc ?_))
 rintro e a5 W5 ⟨rfl,ms5⟩
 refine wpIn_block (wpIn_mono (NF 5 wf hy ms5) ?_)
 rintro e a6 W6 ⟨rfl,ms6⟩
 have FI:=(n12 F1 ((l.length:Nat):Int) (i:Int) (tell m (aW d l[i])) (aW d l[i]) d out l).trans (ae (fits (by omega)) rfl)
 refine wpIn_mono (zX FI 5 ms6) ?_
 rintro e a7 W7 ⟨rfl,ms7⟩
 refine wpIn_mono (zX (n13 F1 _ _ _) 5 ms7) ?_
 rintro e a8 W8 ⟨rfl,ms8⟩
 have ew:=aP aE (by omega)
 rw[ew]at ms8
 exact⟨l.length-(i+1),by omega,i+1,_,_,_,_,by omega,rfl,by simp;omega,ms8,FJ,ht.tell _⟩
end Go.Vs
