/- The walk of the function that tells faces, by hand: the second part. -/
import Derived.Test.YtpkfpbpbkabkdaaGreatFacesA
set_option linter.unusedSimpArgs false
set_option linter.unusedVariables false
namespace Go.Vs
open Go.Proofs Go.Cy
variable {Z Z' Z0:Nat→Prop} {ψ ψ' ψ0 rG xc:Nat→Value} {h h':Hp} {w w' w0:World} {B0:Nat} {O N:Nat→Prop}
theorem FA{p:Nat→Prop}(h:∃n,p n):∃n,p n∧∀m,m<n→¬p m:=by
 obtain⟨n,hn⟩:=h
 induction n using Nat.strongRecOn with
 |_ n ih =>
  by_cases k:∃m,m<n∧p m
  ·obtain⟨m,h1,h2⟩:=k;exact ih m h1 h2
  ·exact⟨n,hn,fun m h1 h2=>k ⟨m,h1,h2⟩⟩
open Classical in
noncomputable def least(p:Nat→Prop):Nat:=if h:∃n,p n then Classical.choose (FA h) else 0
theorem zZ{p:Nat→Prop}(h:∃n,p n):p (least p)∧∀m,p m→least p≤m:=by
 unfold least
 rw[dif_pos h]
 obtain⟨h1,h2⟩:=Classical.choose_spec (FA h)
 exact⟨h1,fun m hm=>Classical.byContradiction fun k=>h2 m (by omega) hm⟩
theorem C8{F:Fence}{n:Nat}{P:Program}{c:Code}{Q:Exit→Act→World→Prop}(I:Nat→Act→World→Prop){k:Nat}{a:Act}{w:World}(h0:I k a w)
  (round:∀k a w,I k a w→c.wpIn F n P (Exit.then (fun a' w'=>∃k',k'<k∧I k' a' w') Q) a w):(Code.loop c).wpIn F n P Q a w:=by
 refine wpIn_loop (fun a w=>∃k,I k a w) (fun a w=>least fun k=>I k a w) ⟨k,h0⟩ fun a w hI=>?_
 obtain⟨h1,_⟩:=zZ hI
 refine wpIn_mono (round _ a w h1) fun e a' w' hq=>?_
 cases e with
 |normal=>obtain⟨k',h2,h3⟩:=hq;exact⟨⟨k',h3⟩,Nat.lt_of_le_of_lt ((zZ ⟨k',h3⟩).2 k' h3) h2⟩
 |_=>exact hq
abbrev hU(x:ab)(d:ak):Heap:=(aj U0 ((),(((x,()),((d,()),())),()))).heap
abbrev hB(x:ab)(d:ak)(y:ab):Heap:=(aj U1 ((true,()),(((x,()),((d,()),((y,()),()))),()))).heap
def m6(m:Tm)(y:ab):Tm:=lx b8 y true m
def tell(m:Tm)(l:List ab):Tm:=l.foldl m6 m
theorem KG(m:Tm)(l:List ab)(y:ab):tell m (l++[y])=m6 (tell m l) y:=by simp[tell]
structure Bt(W1:World)(Z1:Nat→Prop)(OA OB:Nat→Prop)(B0:Nat)(O:Nat→Prop)(l:Nat)(rc:Loop)(tm:Array Value)(m:Tm)(f:List ab)(x:ab)(d:ak)(y:ab)(Z:Nat→Prop)(rG xc:Nat→Value)(a:Act)(W:World):Prop where
 gA:Good Z rG (hA m f).get W B0 O
 gB:Good Z xc (hB x d y).get W B0 O
 ap:fT (Own xc (hB x d y).get) Z (Own rG (hA m f).get) W
 s:Sl tm Z rG (hA m f).get W
 hl:W.heap[l]? = some (.loop rc)
 fl:fT (·=l) Z (fun b=>Own rG (hA m f).get b∨Own xc (hB x d y).get b) W
 tr:Tr (·=l) Z1 (fun b=>OA b∨OB b) W1 Z (fun b=>Own rG (hA m f).get b∨Own xc (hB x d y).get b) W
 a0:a.tmps.getD 0 undef=.func (.yield l) #[] #[]
 b0:B0≤W.heap.size
theorem SL{W:World}{x y:ab}{d:ak}{v:Value}(g:Good Z xc (hB x d y).get W B0 O)(hr:ar Z xc (hB x d y).get W (.ref 20004 0 0 0) v):∃V,(Instr.loadAt 33 v).run Tryz.prog W=.ok V W∧∀ψ h,ar Z ψ h W (bS b8 y) V:=by
 have hb:(hB x d y).get 20004=some (.box 33 (enc b8 y)):=rfl
 obtain⟨q,vs,e1,e2,e3,e4⟩:=g.box _ _ _ hb
 simp only[ar]at hr
 obtain⟨ad,rfl,h2⟩:=hr
 have h3:=h2 (by rw[hb];simp)
 rw[e1]at h3
 have h3:ad=⟨q,0,none⟩:=h3
 subst h3
 obtain⟨V,h4,h5⟩:=iU (P:=Tryz.prog) (t:=33) (a:=⟨q,0,none⟩) (x:=bS b8 y) e3 (fun j u hu=>by
  rw[bW,Nat.zero_add]
  simp only[World.cell?,e2]
  simpa using hu) (by kernel_rfl)
 exact⟨V,h4,fun ψ h=>h5.move (p:=fun _=>False) (fun _ h=>h) (b5.refl _ _) (fun _ k=>k.elim) (mD _ b8 y)⟩
structure Itr(W1:World)(Z1:Nat→Prop)(OA OB:Nat→Prop)(B0:Nat)(O:Nat→Prop)(l:Nat)(rc:Loop)(tm:Array Value)(m:Tm)(f:List ab)(Z:Nat→Prop)(rG:Nat→Value)(W:World):Prop where
 gA:Good Z rG (hA m f).get W B0 O
 s:Sl tm Z rG (hA m f).get W
 hl:W.heap[l]? = some (.loop rc)
 tr:Tr (·=l) Z1 (fun b=>OA b∨OB b) W1 Z (Own rG (hA m f).get) W
theorem PZ(n:Nat){W1:World}{m:Tm}{f:List ab}{x:ab}{d:ak}{l D:Nat}{fn:FuncId}{tm:Array Value}{px pd:Value}(wf:Wf d)(hx:x∈an d.1)
  (gA:Good Z rG (hA m f).get W1 B0 O) (gB:Good Z xc (hU x d).get W1 B0 O) (ap:fT (Own xc (hU x d).get) Z (Own rG (hA m f).get) W1) (WT:B0≤W1.heap.size) (s:Sl tm Z rG (hA m f).get W1)
  (rx:ar Z xc (hU x d).get W1 (.ref 20002 0 0 0) px) (rd:ar Z xc (hU x d).get W1 (.ref 20003 0 0 0) pd)
  (hl:W1.heap[l]? = some (.loop (mj .ready fn tm D))) (fl:fT (·=l) Z (fun b=>Own rG (hA m f).get b∨Own xc (hU x d).get b) W1) (hf:f.length+(aW d x).length≤eP) :
  CallsIn (FW none) n Tryz.prog 254 #[.func (.yield l) #[] #[],px,pd] W1 fun e W'=>(∃v,e=.returned v)∧∃Z' ψ',Itr W1 Z (Own rG (hA m f).get) (Own xc (hU x d).get) B0 O l (mj .ready fn tm D) tm (tell m (aW d x)) (f++aW d x) Z' ψ' W':=by
 obtain⟨r0,Yb,Dg,aZ,hcy⟩:=zL wf hx
 refine callsIn_of_wp Tryz.func254 PX trivial ?_ rfl
 obtain⟨xd,FB⟩:∃t:Array Value,t=#[.func (.yield l) #[] #[],px,pd]++Array.replicate (Tryz.f254.ntmps-(#[.func (.yield l) #[] #[],px,pd]:Array Value).size) undef:=⟨_,rfl⟩
 rw[←FB]
 have SM:xd.size=23:=by rw[FB,Tryz.ntmps254];simp
 have e0:xd.getD 0 undef=.func (.yield l) #[] #[]:=by rw[FB];simp
 have e1:xd.getD 1 undef=px:=by rw[FB];simp
 have e2:xd.getD 2 undef=pd:=by rw[FB];simp
 have t0:cw Z xc (hU x d).get W1 23 (look (aj U0 ((),(((x,()),((d,()),())),()))).tmps) { tmps:=xd,defers:=[] }:=by
  refine dO (fun p hp=>?_) SM rfl
  have hp:p∈[(1,AV.ref 20002 0 0 0),(2,AV.ref 20003 0 0 0)]:=hp
  simp only[List.mem_cons,List.not_mem_nil,or_false]at hp
  rcases hp with rfl|rfl
  ·show ar _ _ _ _ _ (xd.getD 1 undef);rw[e1];exact rx
  ·show ar _ _ _ _ _ (xd.getD 2 undef);rw[e2];exact rd
 have zA:∀b,Z b→¬Own rG (hA m f).get b:=fun b hb=>(gA.zA b hb).2
 have zl:∀b,Z b→¬b=l:=fun b hb e=>(fl l rfl).2.1 (e▸hb)
 refine wpIn_seq ?_
 refine wpIn_mono (dv om (u0 F1 x d) none n [] (Good.start gB) t0) ?_
 rintro e a1 W2 ⟨rfl,a2,rfl,k1,gH,Z1,mn,SH,PY,t1⟩
 obtain⟨Z2,dB,Ak,t2⟩:=fm SH PY t1
 have Yc:Good Z2 dB (hB x d x).get W2 B0 O:=Ak.HJ gB WT
 have Re:Tr (fun _=>False) Z (Own xc (hU x d).get) W1 Z2 (Own dB (hB x d x).get) W2:=Ak.tr
 have fA:fT (Own rG (hA m f).get) Z (Own xc (hU x d).get) W1:=fun b hb=>⟨gA.bA hb,fun hz=>zA b hz hb,fun h2=>(ap b h2).2.2 hb⟩
 have WU:Good Z2 rG (hA m f).get W2 B0 O:=Re.part (fun b hb=>(gB.zA b hb).2) gA fA (fun _ _ h=>h) Yc.iS
 obtain⟨fA2,_⟩:=Re.free fA fun _ _ h=>h
 have ap2:fT (Own dB (hB x d x).get) Z2 (Own rG (hA m f).get) W2:=fun b hb=>⟨Yc.bA hb,fun hz=>(Yc.zA b hz).2 hb,fun h2=>(fA2 b h2).2.2 hb⟩
 have sm2:b5 Z W1 W2:=Re.same gB.zA fun _ _ h=>h
 have s2:Sl tm Z2 rG (hA m f).get W2:=⟨s.n,s.t4.less Ak.eR sm2 fun i hi=>⟨hi,rfl⟩,s.t7.less Ak.eR sm2 fun i hi=>⟨hi,rfl⟩⟩
 obtain⟨KZ,wH⟩:=(Re.beside (Own rG (hA m f).get)).free (X:=(·=l)) (fun b hb=>⟨(fl b hb).1,(fl b hb).2.1,fun h=>(fl b hb).2.2 h.symm⟩) fun _ _ h=>h
 rw[dg]
 refine wpIn_block ?_
 have start:Bt W1 Z (Own rG (hA m f).get) (Own xc (hU x d).get) B0 O l (mj .ready fn tm D) tm m f x d x Z2 rG dB a2 W2 :=
  ⟨WU,Yc,ap2,s2,(wH l rfl).trans hl,fun b hb=>⟨(KZ b hb).1,(KZ b hb).2.1,fun h=>(KZ b hb).2.2 h.symm⟩,(Re.beside (Own rG (hA m f).get)).less (fun b h=>h.symm) (fun b h=>h.symm) (fun _ h=>h.elim),(k1 0 (by simp)).trans e0,Nat.le_trans WT Re.size⟩
 refine C8 (fun k a W=>∃pre y rest Z' aaX WV b,aW d x=pre++y::rest∧k=rest.length∧Bt W1 Z (Own rG (hA m f).get) (Own xc (hU x d).get) B0 O l (mj .ready fn tm D) tm (tell m pre) (f++pre) x d y Z' aaX WV a W ∧
  cw Z' WV (hB x d y).get W 23 (look (aj U1 ((b,()),(((x,()),((d,()),((y,()),()))),()))).tmps) a)
  (k:=r0.length) ⟨[],x,r0,Z2,rG,dB,true,Yb,rfl,by rw[List.append_nil];exact start,t2⟩ ?_
 rintro k a W ⟨pre,y,rest,Z3,Lx,yh,bb,ln,rfl,bt,t3⟩
 have hy:y∈an d.1:=aZ y (by rw[←Yb,ln];simp)
 have r4:ar Z3 yh (hB x d y).get W (.ref 20004 0 0 0) (a.tmps.getD 4 undef):=t3.rep 4
 obtain⟨V,hV,rV⟩:=SL bt.gB r4
 have hlen:(f++pre).length+1≤eP:=by
  rw[ln]at hf;simp at hf ⊢;omega
 have rin:=NF (n-1) bt.gA bt.b0 bt.s (rV Lx _) hlen bt.hl (fun b hb=>⟨(bt.fl b hb).1,(bt.fl b hb).2.1,fun h=>(bt.fl b hb).2.2 (.inl h)⟩)
 have Bx:(Instr.yield l #[V]).run Tryz.prog W=.ok (.round l fn (tm.setIfInBounds 23 V) (r6 9) bd) W:=by
  have:=run_yield (P:=Tryz.prog) (args:=#[V]) bt.hl rfl
  simpa[mj] using this
 refine wpIn_seq (wpIn_seq ?_)
 refine NG n t3.size bt.a0 hV Bx (rin.mono ?_)
 rintro e W4 ⟨rfl,Z4,IY,FC⟩
 refine⟨.bool true,rfl,?_⟩
 obtain⟨b,hb⟩:∃b,b=((a.put (some 7) (.func (.yield l) #[] #[])).put (some 8) V).put (some 9) (.bool true):=⟨_,rfl⟩
 rw[←hb]
 have other:∀i,i≠7→i≠8→i≠9→b.tmps.getD i undef=a.tmps.getD i undef:=fun i h7 h8 h9=>by
  rw[hb,bI _ _ (fun j hj=>by cases hj;exact h9),bI _ _ (fun j hj=>by cases hj;exact h8),bI _ _ (fun j hj=>by cases hj;exact h7)]
 have bsz:b.tmps.size=23:=by rw[hb,b6,b6,b6];exact t3.size
 have bdf:b.defers=[]:=by rw[hb,put_defers,put_defers,put_defers];exact t3.defers
 have b9:b.eval (.tmp 9)=.bool true:=by
  have:((a.put (some 7) (.func (.yield l) #[] #[])).put (some 8) V).tmps.size=23:=by rw[b6,b6];exact t3.size
  rw[hb]
  show(((a.put (some 7) (.func (.yield l) #[] #[])).put (some 8) V).put (some 9) (.bool true)).tmps.getD 9 undef=_
  rw[gk (by omega),if_pos rfl]
 refine wpIn_cond_true b9 (wpIn_skip (wpIn_block (wpIn_seq ?_)))
 have z3l:∀q,Z3 q→¬q=l:=fun q hq e=>(bt.fl l rfl).2.1 (e▸hq)
 have bl:∀q,Own yh (hB x d y).get q→¬q=l:=fun q hq e=>(bt.fl l rfl).2.2 (.inr (e▸hq))
 have Yd:Good Z4 yh (hB x d y).get W4 B0 O:=FC.tr.part (fun q hq=>(bt.gA.zA q hq).2) bt.gB bt.ap (fun q hq=>hq.elim (z3l q) (bl q)) FC.g.iS
 obtain⟨ap4,_⟩:=FC.tr.free bt.ap bl
 have sm4:b5 Z3 W W4:=FC.tr.same bt.gA.zA z3l
 have t4:cw Z4 yh (hB x d y).get W4 23 (look (aj U1 ((bb,()),(((x,()),((d,()),((y,()),()))),()))).tmps) b:=by
  have up:∀i v,i≠7→i≠8→i≠9→look (aj U1 ((bb,()),(((x,()),((d,()),((y,()),()))),()))).tmps i=v→ar Z4 yh (hB x d y).get W4 v (b.tmps.getD i undef):=fun i v h7 h8 h9 e=>by
   rw[other i h7 h8 h9,←e]
   exact(t3.rep i).less FC.tr.eR sm4 fun j hj=>⟨hj,rfl⟩
  refine dO (fun p hp=>?_) bsz bdf
  have hp:p∈[(5,AV.bool bb),(1,AV.ref 20002 0 0 0),(2,AV.ref 20003 0 0 0),(4,AV.ref 20004 0 0 0)]:=hp
  simp only[List.mem_cons,List.not_mem_nil,or_false]at hp
  rcases hp with rfl|rfl|rfl|rfl
  ·exact up 5 _ (by decide) (by decide) (by decide) rfl
  ·exact up 1 _ (by decide) (by decide) (by decide) rfl
  ·exact up 2 _ (by decide) (by decide) (by decide) rfl
  ·exact up 4 _ (by decide) (by decide) (by decide) rfl
 have hB4:B0≤W4.heap.size:=Nat.le_trans bt.b0 FC.tr.size
 have aaY:F1 255 Bu ((d,((y.1,y.2),())),())=some ((ph d y,(true,())),()):=by
  have:=NC rfl (WE hg0 d y wf)
  rw[Fh wf hy]at this
  exact this
 have hn:=(u2 F1 bb x y d).trans (aa aaY rfl)
 have run:=dv om hn none n [] (Good.start Yd) t4
 rw[dg]at run
 refine wpIn_mono run ?_
 clear run
 rintro e a5 W5 ⟨rfl,a6,rfl,k6,st6,Z6,ψ6,SJ,ok6,t6⟩
 refine wpIn_seq ?_
 refine wpIn_mono (dv om SJ none n [] ok6 t6) ?_
 rintro e a7 W7 ⟨rfl,a8,rfl,k8,st8,Z8,ψ8,aaZ,ok8,t8⟩
 obtain⟨Z9,WW,Ye,t9⟩:=fm aaZ ok8 t8
 rw[dg]
 have WX:Good Z9 WW (hB x d (ph d y)).get W7 B0 O:=Ye.HJ Yd hB4
 have TO:Tr (fun _=>False) Z4 (Own yh (hB x d y).get) W4 Z9 (Own WW (hB x d (ph d y)).get) W7:=Ye.tr
 have fA4:fT (Own IY (hA (m6 (tell m pre) y) (f++pre++[y])).get) Z4 (Own yh (hB x d y).get) W4:=fun q hq=>⟨FC.g.bA hq,fun hz=>(FC.g.zA q hz).2 hq,fun h2=>(ap4 q h2).2.2 hq⟩
 have gA9:Good Z9 IY (hA (m6 (tell m pre) y) (f++pre++[y])).get W7 B0 O:=TO.part (fun q hq=>(Yd.zA q hq).2) FC.g fA4 (fun _ _ h=>h) WX.iS
 obtain⟨fA9,_⟩:=TO.free fA4 fun _ _ h=>h
 have ap9:fT (Own WW (hB x d (ph d y)).get) Z9 (Own IY (hA (m6 (tell m pre) y) (f++pre++[y])).get) W7:=fun q hq=>⟨WX.bA hq,fun hz=>(WX.zA q hz).2 hq,fun h2=>(fA9 q h2).2.2 hq⟩
 have sm9:b5 Z4 W4 W7:=TO.same Yd.zA fun _ _ h=>h
 have s9:Sl tm Z9 IY (hA (m6 (tell m pre) y) (f++pre++[y])).get W7:=⟨FC.s.n,FC.s.t4.less Ye.eR sm9 fun i hi=>⟨hi,rfl⟩,FC.s.t7.less Ye.eR sm9 fun i hi=>⟨hi,rfl⟩⟩
 have trB:Tr (·=l) Z1 (fun q=>Own rG (hA m f).get q∨Own xc (hU x d).get q) W1 Z1 (fun q=>Own rG (hA m f).get q∨Own xc (hU x d).get q) W1:=Tr.refl
 have Yf:Tr (·=l) Z (fun q=>Own rG (hA m f).get q∨Own xc (hU x d).get q) W1 Z9 (fun q=>Own IY (hA (m6 (tell m pre) y) (f++pre++[y])).get q∨Own WW (hB x d (ph d y)).get q) W7 :=
  (bt.tr.trans (FC.tr.beside _)).trans ((TO.beside (Own IY (hA (m6 (tell m pre) y) (f++pre++[y])).get)).less (fun q h=>h.symm) (fun q h=>h.symm) (fun _ h=>h.elim))
 have fl4:fT (·=l) Z4 (fun q=>Own IY (hA (m6 (tell m pre) y) (f++pre++[y])).get q∨Own yh (hB x d y).get q) W4:=fun q hq=>by
  have hq:q=l:=hq
  subst hq
  have h0:=bt.fl q rfl
  refine⟨Nat.lt_of_lt_of_le h0.1 FC.tr.size,fun hz=>?_,fun ho=>?_⟩
  ·rcases FC.tr.dJ q hz with e|e|e
   ·exact h0.2.1 e
   ·exact h0.2.2 (.inl e)
   ·have:=h0.1;omega
  ·rcases ho with ho|ho
   ·rcases FC.tr.own q ho with e|e
    ·exact h0.2.2 (.inl e)
    ·have:=h0.1;omega
   ·exact h0.2.2 (.inr ho)
 obtain⟨WY,hl9⟩:=(TO.beside (Own IY (hA (m6 (tell m pre) y) (f++pre++[y])).get)).free (X:=(·=l)) (fun q hq=>⟨(fl4 q hq).1,(fl4 q hq).2.1,fun h=>(fl4 q hq).2.2 h.symm⟩) fun _ _ h=>h
 have a8z:a8.tmps.getD 0 undef=.func (.yield l) #[] #[]:=(k8 0 (by simp)).trans ((k6 0 (by simp)).trans ((other 0 (by decide) (by decide) (by decide)).trans bt.a0))
 have WZ:W7.heap[l]? = some (.loop (mj .ready fn tm D)):=(hl9 l rfl).trans FC.l
 have SO:a8.eval (.tmp 22)=.bool (((((ph d y).1.1==x.1.1)&&((ph d y).1.2==x.1.2))&&((ph d y).2==x.2))):=t9.rep 22
 have W0:m6 (tell m pre) y=tell m (pre++[y]):=(KG m pre y).symm
 have aa3:f++pre++[y]=f++(pre++[y]):=List.append_assoc _ _ _
 rw[W0,aa3]at gA9 ap9 s9 Yf WY
 have hp:Path (ph d) (pre++y::rest) x:=by rw[←ln,Yb];exact hcy
 have hpy:ph d y=rest.head?.getD x:=(Path.app.1 hp).2.1
 rw[ES]at SO
 cases rest with
 |nil =>
  have e:ph d y=x:=hpy
  refine wpIn_cond_true (SO.trans (congrArg Value.bool (decide_eq_true e))) (wpIn_ret ?_)
  have wu:(results Tryz.f254 a8.tmps).run Tryz.prog W7=.ok (.tuple #[]) W7:=by
   have hr:Tryz.f254.results=#[]:=by kernel_rfl
   exact results_none hr _ _ _
  refine⟨t9.defers,_,wu,⟨_,rfl⟩,Z9,IY,?_⟩
  rw[ln]
  exact⟨gA9,s9,WZ,Yf.less (fun _ h=>h) (fun q h=>.inl h) fun _ h=>h⟩
 |cons y' r =>
  have e:ph d y=y':=hpy
  have aU:ph d y≠x:=fun k=>by
   rw[Yb]at ln
   have SP:=Dg
   rw[ln]at SP
   have h1:x∈pre++[y]:=by
    cases pre with
    |nil=>simp at ln;simp[ln.1]
    |cons q t=>simp at ln;simp[ln.1]
   rw[show pre++y::y'::r=(pre++[y])++y'::r by simp]at SP
   exact(List.nodup_append.1 SP).2.2 x h1 y' List.mem_cons_self (k.symm.trans e)
  refine wpIn_cond_false (SO.trans (congrArg Value.bool (decide_eq_false aU))) (wpIn_skip ?_)
  rw[e]at WX ap9 Yf WY t9
  refine⟨r.length,by simp,pre++[y],y',r,Z9,IY,WW,true,by rw[ln];simp,rfl,⟨gA9,WX,ap9,s9,WZ,fun q hq=>⟨(WY q hq).1,(WY q hq).2.1,fun h=>(WY q hq).2.2 h.symm⟩,Yf,a8z,Nat.le_trans hB4 TO.size⟩,?_⟩
  refine dO (fun p hp=>?_) t9.size t9.defers
  have hp:p∈[(5,AV.bool true),(1,AV.ref 20002 0 0 0),(2,AV.ref 20003 0 0 0),(4,AV.ref 20004 0 0 0)]:=hp
  simp only[List.mem_cons,List.not_mem_nil,or_false]at hp
  rcases hp with rfl|rfl|rfl|rfl
  ·exact t9.rep 5
  ·exact t9.rep 1
  ·exact t9.rep 2
  ·exact t9.rep 4
end Go.Vs
namespace Go.Vs
open Go.Proofs Go.Cy
variable {Z Z' Z0:Nat→Prop} {ψ ψ' ψ0 rG xc:Nat→Value} {h h':Hp} {w w' w0:World} {B0:Nat} {O N:Nat→Prop}
abbrev Al:Nat→Prop:=fun _=>False
def Ot(D:Nat):Deferred:={ target:=.collected D,args:=#[] }
structure Yg(Z0:Nat→Prop)(w0:World)(Ds:List Nat)(sh:Shape)(x:sh.T)(a:Act)(W:World)(a0:Act)(Z:Nat→Prop)(ψ:Nat→Value):Prop where
 e:a=j9 (Ds.map Ot) a0
 wk:Wk Z0 w0 Al Z W
 g:Good Z ψ (aj sh x).heap.get W w0.heap.size Al
 t:cw Z ψ (aj sh x).heap.get W 36 (look (aj sh x).tmps) a0
 nd:Ds.Nodup
 m:∀D,D∈Ds→W.heap[D]? = some (.deferred (some []))∧w0.heap.size≤D
 fr:fT (·∈Ds) Z (Own ψ (aj sh x).heap.get) W
def Ms(Z0:Nat→Prop)(w0:World)(Ds:List Nat)(sh:Shape)(x:sh.T)(a:Act)(W:World):Prop:=∃a0 Z ψ,Yg Z0 w0 Ds sh x a W a0 Z ψ
variable {Ds:List Nat} {sh sh':Shape} {x:sh.T} {x':sh'.T} {a:Act} {W:World}
theorem C9{c:Code}{R:Type}{kk:St→Option R}{y:R}(hx:rn F1 36 [] c (aj sh x) kk=some y)(n:Nat){a0:Act}(s:Yg Z0 w0 Ds sh x a W a0 Z ψ) :
  c.wpIn (FW none) n Tryz.prog (Aft 36 [] (fun d=>a0.tmps.getD d undef) (Ds.map Ot) kk y Z W (Own ψ (aj sh x).heap.get) ψ) a W:=by
 rw[s.e]
 exact dv om hx none n _ (Good.start s.g) s.t
theorem HM{st:St}{a1:Act}{W':World}(s:Yg Z0 w0 Ds sh x a W a1 Z ψ)(sO:cm sh' st=some x'){ψ':Nat→Value}{Z':Nat→Prop}{a2:Act}(ok:Ok Z W (Own ψ (aj sh x).heap.get) ψ Z' ψ' st.heap.get W')(t:cw Z' ψ' st.heap.get W' 36 (look st.tmps) a2):Ms Z0 w0 Ds sh' x' (j9 (Ds.map Ot) a2) W':=by
 obtain⟨Z2,dB,Ak,t2⟩:=fm sO ok t
 obtain⟨f1,f2⟩:=(Ak.tr (L:=Al)).free s.fr fun _ _ h=>h
 exact⟨a2,Z2,dB,rfl,s.wk.step (Ak.tr (L:=Al)) s.g.from (fun _ h=>h.elim),Ak.HJ s.g s.wk.size,t2,s.nd,fun D hD=>⟨(f2 D hD).trans (s.m D hD).1,(s.m D hD).2⟩,f1⟩
theorem z5{c:Code}(hx:rn F1 36 [] c (aj sh x) (cm sh')=some x')(n:Nat)(s:Ms Z0 w0 Ds sh x a W):c.wpIn (FW none) n Tryz.prog (fun e a' W'=>e=.normal∧Ms Z0 w0 Ds sh' x' a' W') a W:=by
 obtain⟨a0,Z,ψ,s⟩:=s
 refine wpIn_mono (C9 hx n s) ?_
 rintro e a1 W1 ⟨rfl,a2,rfl,_,st,Z1,mn,sO,ok,t⟩
 exact⟨rfl,HM s sO ok t⟩
theorem IZ{c c':Code}(hx:(rn F1 36 [] c (aj sh x) fun st=>rn F1 36 [] c' st (cm sh'))=some x')(n:Nat)(s:Ms Z0 w0 Ds sh x a W) :
  c.wpIn (FW none) n Tryz.prog (fun e a' W'=>e=.normal∧c'.wpIn (FW none) n Tryz.prog (fun e a' W'=>e=.normal∧Ms Z0 w0 Ds sh' x' a' W') a' W') a W:=by
 obtain⟨a0,Z,ψ,s⟩:=s
 refine wpIn_mono (C9 hx n s) ?_
 rintro e a1 W1 ⟨rfl,a2,rfl,_,st,Z1,mn,sO,ok,t⟩
 refine⟨rfl,wpIn_mono (dv om sO none n _ ok t) ?_⟩
 rintro e a3 W3 ⟨rfl,a4,rfl,_,st3,Z3,Lx,SQ,P0,t3⟩
 exact⟨rfl,HM s SQ P0 t3⟩
abbrev hC(d:ak)(out:List (List ab))(l:List ab):Heap:=[(20004,.box 41 (enc ox d))]++o5 rws ((out,(l,())):F8 (rws.map (·.2.2)))
theorem xe{i:Nat}{v:Value}(hr:ar Z ψ h w (.bp i) v)(hi:h' i≠none→h i≠none∧ψ' i=ψ i):ar Z' ψ' h' w' (.bp i) v:=by
 simp only[ar]at hr ⊢
 exact⟨hr.1,fun k=>by obtain⟨k1,k2⟩:=hi k;rw[k2];exact hr.2 k1⟩
theorem z6{m:Tm}{f:List ab}{i:Nat}(h:(hA m f).get i≠none):i=20000∨i=9000∨i=20001∨i=9016:=by
 have e:hA m f=[(20000,.box 224 [.bp 9000]),(9000,.own (.map b8 .bool) m),(20001,.box 50 [.bp 9016]),(9016,.own (.row 33 b8) f)]:=rfl
 rw[e]at h
 simp only[Heap.get]at h
 by_cases h1:20000=i
 ·exact .inl h1.symm
 by_cases h2:9000=i
 ·exact .inr (.inl h2.symm)
 by_cases h3:20001=i
 ·exact .inr (.inr (.inl h3.symm))
 by_cases h4:9016=i
 ·exact .inr (.inr (.inr h4.symm))
 rw[if_neg h1,if_neg h2,if_neg h3,if_neg h4]at h
 exact absurd rfl h
theorem Da{x:ab}{d:ak}{i:Nat}(h:(hU x d).get i≠none):i=20002∨i=20003:=by
 have e:hU x d=[(20002,.box 33 (enc b8 x)),(20003,.box 41 (enc ox d))]:=rfl
 rw[e]at h
 simp only[Heap.get]at h
 by_cases h1:20002=i
 ·exact .inl h1.symm
 by_cases h2:20003=i
 ·exact .inr h2.symm
 rw[if_neg h1,if_neg h2]at h
 exact absurd rfl h
theorem z7{d:ak}{out:List (List ab)}{l:List ab}{i:Nat}(h:(hC d out l).get i≠none):i=20004∨i=31000∨i=31001:=by
 have e:hC d out l=[(20004,.box 41 (enc ox d)),(31000,.own (.row 50 (.sl b8)) out),(31001,.own (.row 33 b8) l)]:=rfl
 rw[e]at h
 simp only[Heap.get]at h
 by_cases h1:20004=i
 ·exact .inl h1.symm
 by_cases h2:31000=i
 ·exact .inr (.inl h2.symm)
 by_cases h3:31001=i
 ·exact .inr (.inr h3.symm)
 rw[if_neg h1,if_neg h2,if_neg h3]at h
 exact absurd rfl h
theorem vn{a b:Heap}{i:Nat}{o:Ob}(h:a.get i=some o):(a++b).get i=some o:=by rw[Heap.get_append,h]
theorem qK{a b:Heap}{i:Nat}(h:a.get i=none):(a++b).get i=b.get i:=by rw[Heap.get_append,h]
theorem Db{h:Hp}{i:Nat}(k:h i≠none→False):h i=none:=by
 cases e:h i with
 |none=>rfl
 |some _=>exact(k (by rw[e];simp)).elim
theorem z8{a b c:Heap}(g:Good Z ψ c.get w B0 O)(sa:∀i o,a.get i=some o→c.get i=some o)(sb:∀i o,b.get i=some o→c.get i=some o)(WN:∀i,a.get i≠none→b.get i≠none→False):fT (Own ψ b.get) Z (Own ψ a.get) w:=by
 have up:∀{e:Heap} (se:∀i o,e.get i=some o→c.get i=some o) {i},e.get i≠none→c.get i≠none:=fun {e} se {i} hi=>by
  obtain⟨o,ho⟩:=Option.ne_none_iff_exists'.1 hi
  rw[se i o ho];simp
 rintro q ⟨i,h1,h2⟩
 refine⟨g.bA ⟨i,up sb h1,h2⟩,(g.live i q (up sb h1) h2).1,?_⟩
 rintro⟨j,h3,h4⟩
 have e:=g.apart i j q (up sb h1) (up sa h3) h2 h4
 subst e
 exact WN i h3 h1
end Go.Vs
namespace Go.Vs
open Go.Proofs Go.Cy
variable {Z Z' Z0:Nat→Prop} {ψ ψ' ψ0 rG xc:Nat→Value} {h h':Hp} {w w' w0:World} {B0:Nat} {O N:Nat→Prop}
variable {Ds:List Nat} {a:Act} {W:World}
abbrev x3(n i:Int)(m:Tm)(f:List ab)(x:ab)(d:ak)(out:List (List ab))(l:List ab):S3.T:=((n,(i,())),(((m,()),((f,()),((x,()),((d,()),((d,()),()))))),(out,(l,()))))
abbrev x12(n i:Int)(m:Tm)(f:List ab)(d:ak)(out:List (List ab))(l:List ab):S12.T:=((n,(i,())),(((m,()),((f,()),((d,()),()))),(out,(l,()))))
set_option maxRecDepth 20000 in
theorem NH(k:Nat){n i:Int}{m:Tm}{x:ab}{d:ak}{out:List (List ab)}{l:List ab}(wf:Wf d)(hx:x∈an d.1)(s:Ms Z0 w0 Ds S3 (x3 n i m [] x d out l) a W) :
  cRF.wpIn (FW none) k Tryz.prog (fun e a' W'=>e=.normal∧Ms Z0 w0 (W.heap.size::Ds) S12 (x12 n i (tell m (aW d x)) (aW d x) d out l) a' W') a W:=by
 obtain⟨a0,Z,ψ,s⟩:=s
 have hH:(aj S3 (x3 n i m [] x d out l)).heap=hA m []++(hU x d++hC d out l):=rfl
 have hg:=s.g
 have Bi:=s.fr
 have ht:=s.t
 rw[hH]at hg Bi ht
 have sA:∀j o,(hA m []).get j=some o→(hA m []++(hU x d++hC d out l)).get j=some o:=fun j o e=>vn e
 have nA:∀{j},j=20002∨j=20003∨j=20004∨j=31000∨j=31001→∀m f,(hA m f).get j=none:=fun {j} hj m f=>Db fun e=>by have:=z6 e;omega
 have nU:∀{j},j=20004∨j=31000∨j=31001→(hU x d).get j=none:=fun {j} hj=>Db fun e=>by have:=Da e;omega
 have sU:∀j o,(hU x d).get j=some o→(hA m []++(hU x d++hC d out l)).get j=some o:=fun j o e=>by
  have:=Da (show(hU x d).get j≠none by rw[e];simp)
  rw[qK (nA (by omega) m []),vn e]
 have sC:∀j o,(hC d out l).get j=some o→(hA m []++(hU x d++hC d out l)).get j=some o:=fun j o e=>by
  have:=z7 (show(hC d out l).get j≠none by rw[e];simp)
  rw[qK (nA (by omega) m []),qK (nU (by omega)),e]
 have gA:=hg.sub sA
 have gU:=hg.sub sU
 have gC:=hg.sub sC
 have fUA:fT (Own ψ (hU x d).get) Z (Own ψ (hA m []).get) W:=z8 hg sA sU fun j h1 h2=>by have:=z6 h1;have:=Da h2;omega
 have fCA:fT (Own ψ (hC d out l).get) Z (Own ψ (hA m []).get) W:=z8 hg sA sC fun j h1 h2=>by have:=z6 h1;have:=z7 h2;omega
 have fCU:fT (Own ψ (hC d out l).get) Z (Own ψ (hU x d).get) W:=z8 hg sU sC fun j h1 h2=>by have:=Da h1;have:=z7 h2;omega
 have SO:=ht.rep 22
 have e22:look (aj S3 (x3 n i m [] x d out l)).tmps 22=.fn 254 [.ref 20002 0 0 0,.ref 20003 0 0 0]:=rfl
 rw[e22]at SO
 simp only[ar,ai]at SO
 obtain⟨ws,hv,px,_,RJ,rx,pd,_,rfl,rd,rfl⟩:=SO
 have RJ:ws=#[px,pd]:=Array.ext' RJ
 subst RJ
 have less:∀{hp:Heap} {v:AV} {u:Value},(∀j o,hp.get j=some o→(hA m []++(hU x d++hC d out l)).get j=some o)→ar Z ψ (hA m []++(hU x d++hC d out l)).get W v u→ar Z ψ hp.get W v u:=fun {hp v u} hs hr=>hr.oF hs
 have rx:ar Z ψ (hU x d).get W (.ref 20002 0 0 0) px:=less sU (by simp only[ar];exact rx)
 have rd:ar Z ψ (hU x d).get W (.ref 20003 0 0 0) pd:=less sU (by simp only[ar];exact rd)
 have sl:Sl a0.tmps Z ψ (hA m []).get W:=⟨ht.size,less sA (ht.rep 4),less sA (ht.rep 7)⟩
 rw[s.e]
 refine wpIn_rangeFunc ?_
 intro fn _
 obtain⟨D,hD⟩:∃D,D=W.heap.size:=⟨_,rfl⟩
 obtain⟨W1,nh⟩:∃W1,W1=(W.alloc (.deferred (some []))).alloc (.loop (mj .ready fn a0.tmps D)):=⟨_,rfl⟩
 have il:W1.heap.size=D+2:=by rw[nh,hD];simp
 have da:∀b,b<W.heap.size→W1.heap[b]? = W.heap[b]? := fun b hb=>by
  rw[nh,heap_alloc_old _ _ (by rw[World.size_alloc];omega),heap_alloc_old _ _ hb]
 have hL1:W1.heap[D+1]? = some (.loop (mj .ready fn a0.tmps D)):=by
  have:=World.alloc_heap_new (W.alloc (.deferred (some []))) (.loop (mj .ready fn a0.tmps D))
  rw[World.size_alloc,←nh,←hD]at this
  exact this
 have hD1:W1.heap[D]? = some (.deferred (some [])):=by
  rw[nh,hD,heap_alloc_old _ _ (by rw[World.size_alloc];omega)]
  exact World.alloc_heap_new W _
 have lift:∀{hp:Heap} {ψ:Nat→Value},Good Z ψ hp.get W w0.heap.size Al→Good Z ψ hp.get W1 w0.heap.size Al:=fun {hp ψ} g=>g.same (fun _ h=>h) (fun b hb=>da b (hb.elim (g.iS b) g.bA)) (fun b hb hz=>(g.zA b hz).2 hb) fun b hb=>by have:=g.iS b hb;omega
 have SR:b5 Z W W1:=fun b hb=>da b (hg.iS b hb)
 have gA1:=lift gA
 have gU1:=lift gU
 have gC1:=lift gC
 have up:∀{X A:Nat→Prop},fT X Z A W→fT X Z A W1:=fun {X A} f b hb=>⟨by have:=(f b hb).1;omega,(f b hb).2⟩
 have sl1:Sl a0.tmps Z ψ (hA m []).get W1:=⟨sl.n,sl.t4.less (fun _ h=>h) SR fun j hj=>⟨hj,rfl⟩,sl.t7.less (fun _ h=>h) SR fun j hj=>⟨hj,rfl⟩⟩
 have fresh:∀{hp:Heap} {b:Nat},Good Z ψ hp.get W w0.heap.size Al→W.heap.size≤b→¬Z b∧¬Own ψ hp.get b:=fun {hp b} g hb=>⟨fun hz=>by have:=g.iS b hz;omega,fun ho=>by have:=g.bA ho;omega⟩
 have fl0:∀b,D≤b→b<D+2→b<W1.heap.size∧¬Z b∧¬(Own ψ (hA m []).get b∨Own ψ (hU x d).get b):=fun b h1 h2 =>
  ⟨by omega,(fresh gA (by omega)).1,fun h=>h.elim (fresh gA (by omega)).2 (fresh gU (by omega)).2⟩
 have fl1:fT (·=D+1) Z (fun b=>Own ψ (hA m []).get b∨Own ψ (hU x d).get b) W1:=fun b hb=>fl0 b (by omega) (by omega)
 have hlen:([]:List ab).length+(aW d x).length≤eP:=by have:=Ka d x;unfold eP;simp;omega
 have it:=PZ (k-1) wf hx gA1 gU1 (up fUA) (by rw[il,hD];have:=s.wk.size;omega) sl1
  (rx.less (fun _ h=>h) SR fun j hj=>⟨hj,rfl⟩) (rd.less (fun _ h=>h) SR fun j hj=>⟨hj,rfl⟩) hL1 fl1 hlen
 refine⟨D+1,[Ot D],W1,{ target:=.fn (.func 254) #[px,pd],args:=#[.func (.yield (D+1)) #[] #[]] },W1,254,#[.func (.yield (D+1)) #[] #[],px,pd],W1,?_,?_,fun _ _=>trivial,?_,fun h=>(by cases h),?_⟩
 ·rw[nh,hD];exact run_enterLoop_outer _ _ _ _ _
 ·rw[sB]
  have xM:a0.eval (.tmp 22)=.func (.func 254) #[] #[px,pd]:=hv
  simp only[Go.resolve,xM]
  simp[go_sem]
 ·show(callFunc 254 (#[.func (.yield (D+1)) #[] #[]]++#[px,pd])).run _ _=_
  have hc:G2 [(254,KF)]=true:=by kernel_rfl
  exact iu (w5 hc (g:=KF) (f:=254) (by simp)) _
 refine it.mono ?_
 rintro e W2 ⟨⟨v,rfl⟩,Z2,dB,KH⟩
 refine⟨none,_,run_endLoop KH.hl (by simp[mj]),rfl,?_⟩
 have tA:∀{X},fT X Z (fun b=>Own ψ (hA m []).get b∨Own ψ (hU x d).get b) W1→fT X Z2 (Own dB (hA (tell m (aW d x)) ([]++aW d x)).get) W2:=fun {X} f=>KH.tr.Fy f
 rw[List.nil_append]at KH
 have fC1:fT (Own ψ (hC d out l).get) Z (fun b=>Own ψ (hA m []).get b∨Own ψ (hU x d).get b) W1:=fun b hb=>⟨(up fCA b hb).1,(up fCA b hb).2.1,fun h=>h.elim (fCA b hb).2.2 (fCU b hb).2.2⟩
 have cD:∀b,Own ψ (hC d out l).get b→b<D:=fun b hb=>by rw[hD];exact gC.bA hb
 have zD:∀b,Z b→b<D:=fun b hb=>by rw[hD];exact hg.iS b hb
 have WU:=KH.gA
 have gC2:Good Z2 ψ (hC d out l).get W2 w0.heap.size Al:=KH.tr.part (fun b hb h=>h.elim (gA.zA b hb).2 (gU.zA b hb).2) gC1 fC1 (fun b hb e=>by rcases hb with hb|hb;have:=zD b hb;omega;have:=cD b hb;omega) WU.iS
 have apC:fT (Own ψ (hC d out l).get) Z2 (Own dB (hA (tell m (aW d x)) (aW d x)).get) W2:=KH.tr.Fy fC1
 have KZ:fT (·=D+1) Z2 (Own dB (hA (tell m (aW d x)) (aW d x)).get) W2:=KH.tr.Fy fl1
 have flC:fT (·=D+1) Z2 (Own ψ (hC d out l).get) W2:=fun b hb=>⟨(KZ b hb).1,(KZ b hb).2.1,fun h=>by have:=cD b h;have hb:b=D+1:=hb;omega⟩
 have gA3:=WU.putObj (o':=.loop { mj .ready fn a0.tmps D with state:=.exhausted }) KZ
 have gC3:=gC2.putObj (o':=.loop { mj .ready fn a0.tmps D with state:=.exhausted }) flC
 obtain⟨W3,Rf⟩:∃W3,W3=W2.putObj (D+1) (.loop { mj .ready fn a0.tmps D with state:=.exhausted }):=⟨_,rfl⟩
 rw[←Rf]at gA3 gC3 ⊢
 have sm3:b5 Z2 W2 W3:=by rw[Rf];exact lU KZ
 have W9:W3.heap.size=W2.heap.size:=by rw[Rf];simp
 have WN:∀j,(hA (tell m (aW d x)) (aW d x)).get j≠none→(hC d out l).get j=none:=fun j hj=>Db fun e=>by have:=z6 hj;have:=z7 e;omega
 have apJ:∀q,Own dB (hA (tell m (aW d x)) (aW d x)).get q→¬Own ψ (hC d out l).get q:=fun q h1 h2=>(apC q h2).2.2 h1
 have gJ:=gA3.join gC3 WN apJ (fun j ty cs hj=>by
  have e:=z6 (show(hA (tell m (aW d x)) (aW d x)).get j≠none by rw[hj];simp)
  rcases e with rfl|rfl|rfl|rfl
  ·cases hj
   show au _ [.bp 9000]
   simp only[au,aA]
   exact⟨fun k=>(by cases k),trivial⟩
  ·cases hj
  ·cases hj
   show au _ [.bp 9016]
   simp only[au,aA]
   exact⟨fun k=>(by cases k),trivial⟩
  ·cases hj) (fun j ty cs hj=>by
  have e:=z7 (show(hC d out l).get j≠none by rw[hj];simp)
  rcases e with rfl|rfl|rfl
  ·cases hj;exact pW d _
  ·cases hj
  ·cases hj)
 have aa8:∀b,Own (oi (hA (tell m (aW d x)) (aW d x)).get dB ψ) (hA (tell m (aW d x)) (aW d x)++hC d out l).get b→Own dB (hA (tell m (aW d x)) (aW d x)).get b∨Own ψ (hC d out l).get b:=fun b ⟨j,h1,h2⟩=>by
  by_cases e:(hA (tell m (aW d x)) (aW d x)).get j=none
  ·rw[qK e]at h1
   rw[mZ e]at h2
   exact .inr ⟨j,h1,h2⟩
  ·rw[mY e]at h2
   exact .inl ⟨j,e,h2⟩
 refine⟨a0,Z2,oi (hA (tell m (aW d x)) (aW d x)).get dB ψ,?_,?_,?_,?_,?_,?_,?_⟩
 ·show({ j9 (Ds.map Ot) a0 with defers:=[Ot D]++(j9 (Ds.map Ot) a0).defers }:Act)=j9 ((W.heap.size::Ds).map Ot) a0
  unfold j9
  rw[ht.defers,←hD];rfl
 ·have o1:∀q,(Own ψ (hA m []).get q∨Own ψ (hU x d).get q)→w0.heap.size≤q∨Al q:=fun q h=>h.elim (gA.from q) (gU.from q)
  have w1:Wk Z0 w0 Al Z W1:=s.wk.step (A:=fun q=>Own ψ (hA m []).get q∨Own ψ (hU x d).get q) (B:=fun q=>Own ψ (hA m []).get q∨Own ψ (hU x d).get q) (L:=Al) (Tr.cM (by rw[nh];rfl) (by rw[nh];rfl) (by rw[nh];rfl) (by rw[il,hD];omega) fun b hb _=>da b hb) o1 fun _ h=>h.elim
  have hDl:∀b,b=D+1→w0.heap.size≤b:=fun b hb=>by have:=s.wk.size;omega
  have w2:=w1.step KH.tr o1 hDl
  rw[Rf]
  exact w2.step vm WU.from hDl
 ·exact gJ
 ·have q1:∀{j},(j=20000∨j=20001)→(hA (tell m (aW d x)) (aW d x)).get j≠none:=fun {j} hj=>by rcases hj with rfl|rfl<;>(intro k;cases k)
  have rA:∀{j u},(j=20000∨j=20001)→ar Z2 dB (hA (tell m (aW d x)) (aW d x)).get W2 (.ref j 0 0 0) u→ar Z2 (oi (hA (tell m (aW d x)) (aW d x)).get dB ψ) (hA (tell m (aW d x)) (aW d x)++hC d out l).get W3 (.ref j 0 0 0) u:=fun {j u} hj hr =>
   C6 (fun _ h=>h) hr fun _=>⟨q1 hj,mY (q1 hj)⟩
  have cN:∀{j},(j=20004∨j=31000∨j=31001)→(hA m []++(hU x d++hC d out l)).get j≠none∧oi (hA (tell m (aW d x)) (aW d x)).get dB ψ j=ψ j:=fun {j} hj=>by
   have e1:(hC d out l).get j≠none:=by rcases hj with rfl|rfl|rfl<;>(intro k;cases k)
   obtain⟨o,ho⟩:=Option.ne_none_iff_exists'.1 e1
   exact⟨by rw[sC _ _ ho];simp,mZ (nA (by omega) _ _)⟩
  refine dO (fun p hp=>?_) ht.size ht.defers
  have hp:p∈[(12,AV.int .i64 n),(13,AV.int .i64 i),(4,AV.ref 20000 0 0 0),(7,AV.ref 20001 0 0 0),(1,AV.ref 20004 0 0 0),(3,AV.bp 31000),(11,AV.bp 31001)]:=hp
  simp only[List.mem_cons,List.not_mem_nil,or_false]at hp
  rcases hp with rfl|rfl|rfl|rfl|rfl|rfl|rfl
  ·exact ht.rep 12
  ·exact ht.rep 13
  ·exact rA (.inl rfl) KH.s.t4
  ·exact rA (.inr rfl) KH.s.t7
  ·exact C6 (fun b hb=>KH.tr.eR b hb) (ht.rep 1) fun _=>cN (.inl rfl)
  ·exact xe (ht.rep 3) fun _=>cN (.inr (.inl rfl))
  ·exact xe (ht.rep 11) fun _=>cN (.inr (.inr rfl))
 ·refine List.nodup_cons.2 ⟨fun hm=>?_,s.nd⟩
  have:=(Bi _ hm).1;omega
 ·have keep:∀b,b<D+1→b<W1.heap.size→¬(Own ψ (hA m []).get b∨Own ψ (hU x d).get b)→W3.heap[b]? = W1.heap[b]? := fun b h1 h2 h3=>by
   rw[Rf,World.putObj_heap_other (by omega)]
   exact KH.tr.block b h2 h3 (by omega)
  intro q hq
  rcases List.mem_cons.1 hq with rfl|hq
  ·refine⟨?_,s.wk.size⟩
   rw[←hD]
   exact(keep D (by omega) (by omega) (fl0 D (by omega) (by omega)).2.2).trans hD1
  ·have h0:=Bi q hq
   refine⟨?_,(s.m q hq).2⟩
   have own:∀{hp:Heap},(∀j o,hp.get j=some o→(hA m []++(hU x d++hC d out l)).get j=some o)→¬Own ψ hp.get q:=fun {hp} hs ⟨j,h1,h2⟩=>h0.2.2 ⟨j,(by obtain⟨o,ho⟩:=Option.ne_none_iff_exists'.1 h1;rw[hs _ _ ho];simp),h2⟩
   rw[keep q (by omega) (by omega) (fun h=>h.elim (own sA) (own sU)),da q h0.1]
   exact(s.m q hq).1
 ·intro q hq
  have base:q<W1.heap.size∧¬Z q∧¬(Own ψ (hA m []).get q∨Own ψ (hU x d).get q)∧¬Own ψ (hC d out l).get q:=by
   rcases List.mem_cons.1 hq with rfl|hq
   ·have h1:=fl0 W.heap.size (by omega) (by omega)
    exact⟨h1.1,h1.2.1,h1.2.2,fun h=>by have:=cD _ h;omega⟩
   ·have h0:=Bi q hq
    have own:∀{hp:Heap},(∀j o,hp.get j=some o→(hA m []++(hU x d++hC d out l)).get j=some o)→¬Own ψ hp.get q:=fun {hp} hs ⟨j,h1,h2⟩=>h0.2.2 ⟨j,(by obtain⟨o,ho⟩:=Option.ne_none_iff_exists'.1 h1;rw[hs _ _ ho];simp),h2⟩
    exact⟨by omega,h0.2.1,fun h=>h.elim (own sA) (own sU),own sC⟩
  have h2:=KH.tr.Fy (X:=(·=q)) (fun b hb=>by have hb:b=q:=hb;subst hb;exact⟨base.1,base.2.1,base.2.2.1⟩) q rfl
  exact⟨by rw[W9];exact h2.1,h2.2.1,fun h=>(aa8 q h).elim h2.2.2 base.2.2.2⟩
end Go.Vs
namespace Go.Vs
open Go.Proofs Go.Cy
variable {Z Z' Z0:Nat→Prop} {ψ ψ' ψ0 rG xc:Nat→Value} {h h':Hp} {w w' w0:World} {B0:Nat} {O N:Nat→Prop}
theorem vo{β α:Type}[DecidableEq β]{x z:β}{v:α}:∀{es:List (β×α)} {i:Nat},(es.findIdx? fun e=>decide (e.1=x))=some i→eI z (es.set i (x,v))=if x=z then some v else eI z es
 |[],i,h=>by simp at h
 |e::r,i,h=>by
  rw[List.findIdx?_cons]at h
  by_cases he:e.1=x
  ·rw[if_pos (decide_eq_true he)]at h
   cases h
   rw[List.set_cons_zero,eI,eI]
   show(if x=z then some v else eI z r)=_
   rw[he]
   by_cases k:x=z
   ·rw[if_pos k,if_pos k]
   ·rw[if_neg k,if_neg k,if_neg k]
  ·rw[if_neg (by simpa using he)]at h
   obtain⟨j,hj,rfl⟩:=Option.map_eq_some_iff.1 h
   have ih:=vo (z:=z) (v:=v) hj
   rw[List.set_cons_succ,eI,eI,ih]
   by_cases k:e.1=z
   ·rw[if_pos k,if_neg (fun q=>he (k.trans q.symm)),if_pos k]
   ·rw[if_neg k,if_neg k]
theorem vp{β α:Type}[DecidableEq β]{x z:β}{v:α}:∀{es:List (β×α)},(es.findIdx? fun e=>decide (e.1=x))=none→eI z (es++[(x,v)])=if x=z then some v else eI z es
 |[],_=>rfl
 |e::r,h=>by
  rw[List.findIdx?_eq_none_iff]at h
  have he:e.1≠x:=by have:=h e List.mem_cons_self;simpa using this
  have ih:=vp (z:=z) (v:=v) (es:=r) (List.findIdx?_eq_none_iff.2 fun q hq=>h q (List.mem_cons_of_mem _ hq))
  rw[List.cons_append,eI,eI,ih]
  by_cases k:e.1=z
  ·rw[if_pos k,if_neg (fun q=>he (k.trans q.symm)),if_pos k]
  ·rw[if_neg k,if_neg k]
theorem KI{α:Type}(x z:ab)(v:α)(es:List (ab×α)):eI z (lx b8 x v es)=if x=z then some v else eI z es:=by
 have e:=HC x es
 unfold lx
 split
 ·rename_i i hi;exact vo (e.symm.trans hi)
 ·rename_i hi;exact vp (e.symm.trans hi)
def B2(m:Tm)(T:List ab):Prop:=∀z,(eI z m).getD false=decide (z∈T)
theorem B2.tell{m:Tm}{T:List ab}(h:B2 m T)(l:List ab):B2 (tell m l) (T++l):=by
 induction l generalizing m T with
 |nil=>rw[List.append_nil];exact h
 |cons y r ih =>
  have h1:B2 (m6 m y) (T++[y]):=fun z=>by
   unfold m6
   rw[KI]
   by_cases k:y=z
   ·subst k;simp
   ·rw[if_neg k,h z]
    have:(z∈T++[y])↔z∈T:=by simp[Ne.symm k]
    rw[Bool.eq_iff_iff];simp[Ne.symm k]
  have:=ih h1
  rw[List.append_assoc]at this
  exact this
theorem NI{m:Tm}{T:List ab}(h:B2 m T)(y:ab):(ib b8 (y.1,y.2) m).getD false=decide (y∈T):=by
 have:=Nx y m
 show(ib b8 y m).getD false=_
 rw[this];exact h y
abbrev x0(n i:Int)(m:Tm)(d:ak)(out:List (List ab))(l:List ab):S0.T:=((n,(i,())),(((m,()),((d,()),())),(out,(l,()))))
theorem I0{Ds:List Nat}{sh:Shape}{x:sh.T}{a:Act}{W:World}(s:Ms Z0 w0 Ds sh x a W){i:Nat}{b:Bool}(e:look (aj sh x).tmps i=.bool b):a.eval (.tmp i)=.bool b:=by
 obtain⟨a0,Z,ψ,s⟩:=s
 have:=s.t.rep i
 rw[e]at this
 rw[s.e,sB]
 exact this
theorem ua{n:Nat}{fn:Func}{tmps:Array Value}{R:Ending→World→Prop}:∀(Ds:List Nat) (W:World),Ds.Nodup→(∀D,D∈Ds→W.heap[D]? = some (.deferred (some []))) →
  (∀W',W'.os=W.os→W'.tape=W.tape→W'.output=W.output→W'.heap.size=W.heap.size→(∀b,b∉Ds→W'.heap[b]? = W.heap[b]?)→∃v,(results fn tmps).run Tryz.prog W'=.ok v W'∧R (.returned v) W') →
  LeavesInM (FW none) n Tryz.prog fn tmps R (Ds.map Ot) .returning W
 |[],W,_,_,h=>h W rfl rfl rfl rfl fun _ _=>rfl
 |D::Ds,W,hn,hd,h=>by
  obtain⟨h1,h2⟩:=List.nodup_cons.1 hn
  refine⟨by simp,.inl ⟨D,_,rfl,run_takeDeferred (hd D List.mem_cons_self),?_⟩⟩
  refine ua Ds _ h2 (fun E hE=>?_) fun W' e1 e2 e3 e4 e5=>?_
  ·rw[World.putObj_heap_other (fun e:E=D=>h1 (by rw[←e];exact hE))]
   exact hd E (List.mem_cons_of_mem _ hE)
  ·refine h W' e1 e2 e3 (e4.trans (by simp)) fun b hb=>?_
   rw[e5 b (fun k=>hb (List.mem_cons_of_mem _ k))]
   exact World.putObj_heap_other fun e:b=D=>hb (by rw[e];exact List.mem_cons_self)
abbrev SN:Shape:=⟨[(0,ox)],[],[],[]⟩
theorem KJ{d:ak}(wf:Wf d):A8 Tryz.prog 240 vZ ((d,()),()) ((cQ d,()),()):=by
 intro Z ψ0 w jB hg hr
 have hr:ai Z ψ0 (Heap.get []) w [bS ox d] jB:=hr
 have hg:Good Z ψ0 (Heap.get []) w w.heap.size (Own ψ0 (Heap.get [])):=hg
 have Aa:∀b,¬Own ψ0 (Heap.get []) b:=fun b ⟨i,h1,_⟩=>h1 rfl
 simp only[ai]at hr
 obtain⟨u0,_,rfl,hu,rfl⟩:=hr
 refine tZ (r:=none) (n:=5) (callsIn_of_wp_marks Tryz.func240 PW trivial ?_ rfl)
 obtain⟨xd,FB⟩:∃t:Array Value,t=#[u0]++Array.replicate (Tryz.f240.ntmps-(#[u0]:Array Value).size) undef:=⟨_,rfl⟩
 show Code.wpIn _ _ _ _ _ { tmps:=#[u0]++Array.replicate (Tryz.f240.ntmps-(#[u0]:Array Value).size) undef,defers:=[] } w
 rw[←FB]
 have SM:xd.size=36:=by rw[FB,Tryz.ntmps240];simp
 have e0:xd.getD 0 undef=u0:=by rw[FB];simp
 have ms0:Yg Z w [] SN ((d,()),((),())) { tmps:=xd,defers:=[] } w { tmps:=xd,defers:=[] } Z ψ0:=by
  refine⟨rfl,Wk.start Z w Al,hg.NB fun b h _=>(Aa b h).elim,dO (fun p hp=>?_) SM rfl,List.nodup_nil,fun D hD=>(by cases hD),fun D hD=>(by cases hD)⟩
  have hp:p∈[(0,bS ox d)]:=hp
  simp only[List.mem_cons,List.not_mem_nil,or_false]at hp
  subst hp
  show ar _ _ _ _ _ (xd.getD 0 undef)
  rw[e0];exact hu
 have aa9:F1 249 tv ((d,()),())=some ((iE d.2,()),()):=NC rfl (WG hg0 d wf.sm)
 have hn:=(aaP F1 d).trans (aa aa9 rfl)
 refine wpIn_seq (wpIn_mono (C9 hn 5 ms0) ?_)
 rintro e a1 W1 ⟨rfl,a2,rfl,_,gH,Z1,mn,q1,PY,t1⟩
 refine wpIn_seq (wpIn_mono (dv om q1 none 5 _ PY t1) ?_)
 rintro e a3 W3 ⟨rfl,a4,rfl,_,st2,Z2,dB,q2,Ak,t2⟩
 refine wpIn_seq (wpIn_mono (dv om q2 none 5 _ Ak t2) ?_)
 rintro e a5 W5 ⟨rfl,a6,rfl,_,st3,Z3,Lx,q3,P0,t3⟩
 refine wpIn_seq (wpIn_seq (wpIn_mono (dv om q3 none 5 _ P0 t3) ?_))
 rintro e a7 W7 ⟨rfl,a8,rfl,_,st4,Z4,yh,q4,SI,t4⟩
 have ms:=HM ms0 q4 SI t4
 clear q1 q2 q3 q4 PY Ak P0 SI t1 t2 t3 t4
 obtain⟨l,hl⟩:∃l,l=iE d.2:=⟨_,rfl⟩
 rw[←hl]at ms
 have hll:l.length≤80:=by rw[hl,pQ];have:=wf.ne;omega
 have iw:∀y,y∈l→y∈an d.1:=fun y hy=>by rw[hl,km]at hy;exact wf.pd.mem_iff.2 hy
 refine wpIn_block ?_
 refine C8 (fun k a W=>∃(i:Nat) (m:Tm) (out:List (List ab)) (T:List ab) (Ds:List Nat),i≤l.length∧k=l.length-i∧out.length≤i∧Ms Z w Ds S0 (x0 ((l.length:Nat):Int) (i:Int) m d out l) a W∧jw d (l.drop i) out T=cQ d∧B2 m T)
  (k:=l.length) ⟨0,[],[],[],[],Nat.zero_le _,rfl,Nat.le_refl _,ms,by rw[List.drop_zero,hl];rfl,fun z=>by simp[eI]⟩ ?_
 rintro k a W ⟨i,m,out,T,Ds,hi,rfl,ho,ms,FU,ht⟩
 refine wpIn_seq (wpIn_mono (z5 (n4 F1 ((l.length:Nat):Int) (i:Int) _) 5 ms) ?_)
 rintro e a1 W1 ⟨rfl,ms1⟩
 have Qx:=I0 ms1 (i:=14) rfl
 by_cases aG:i<l.length
 case neg =>
  have e:i=l.length:=by omega
  have ef:decide ((i:Int)<((l.length:Nat):Int))=false:=decide_eq_false (by omega)
  rw[ef]at Qx
  refine wpIn_seq (wpIn_cond_false Qx (wpIn_exit ?_))
  show Code.wpIn _ _ _ _ _ _ _
  refine wpIn_seq (wpIn_mono (z5 (n14 F1 _ _ _ m d out l) 5 ms1) ?_)
  rintro e a2 W2 ⟨rfl,ms2⟩
  refine wpIn_ret ?_
  obtain⟨a0,Z2,dB,s⟩:=ms2
  rw[e,List.drop_eq_nil_of_le (Nat.le_refl _)]at FU
  have FU:out=cQ d:=FU
  rw[s.e]
  show LeavesInM _ _ _ _ a0.tmps _ (a0.defers++Ds.map Ot) .returning W2
  rw[s.t.defers,List.nil_append]
  refine ua Ds W2 s.nd (fun D hD=>(s.m D hD).1) fun W3 e1 e2 e3 e4 e5=>?_
  have wu:Tryz.f240.results=#[.tmp 2]:=by kernel_rfl
  have nZ:∀b,Z2 b∨Own dB (aj SE ((),((),(out,())))).heap.get b→b∉Ds:=fun b hb hD=>by
   have:=s.fr b hD
   exact hb.elim this.2.1 this.2.2
  have g3:Good Z2 dB (aj SE ((),((),(out,())))).heap.get W3 w.heap.size Al:=s.g.same (fun _ h=>h) (fun b hb=>e5 b (nZ b hb)) (fun b hb hz=>(s.g.zA b hz).2 hb) fun b hb=>by rw[e4];exact s.g.iS b hb
  have k3:Wk Z w Al Z2 W3:=⟨s.wk.eR,s.wk.dJ,e1.trans s.wk.os,e2.trans s.wk.tape,e3.trans s.wk.output,by rw[e4];exact s.wk.size,fun b hb ho=>by
   rw[e5 b (fun hD=>by have:=(s.m b hD).2;omega)]
   exact s.wk.block b hb ho⟩
  refine⟨_,results_tmp wu _ _ _,_,Z2,dB,rfl,k3.eR,fun b hb=>?_,⟨k3.os,k3.tape,k3.output,k3.size,fun b hb _=>k3.block b hb fun h=>h⟩,?_,fun i hi=>(by cases hi),?_⟩
  ·rcases k3.dJ b hb with h|h|h
   ·exact .inl h
   ·exact h.elim
   ·exact .inr (.inr h)
  ·rw[FU]at g3
   exact g3.NB fun b _ hb=>hb.elim .inl fun h=>h.elim
  ·have r2:=s.t.rep 2
   have:ar Z2 dB (aj SE ((),((),(out,())))).heap.get W2 (.bp 3000) (a0.tmps.getD 2 undef):=r2
   rw[FU]at this
   simp only[ar]at this
   show ar Z2 dB _ W3 (.bp 3000) _
   simp only[ar]
   exact this
 have et:decide ((i:Int)<((l.length:Nat):Int))=true:=cg aG
 rw[et]at Qx
 refine wpIn_seq (wpIn_cond_true Qx (wpIn_skip ?_))
 refine wpIn_seq (wpIn_block (wpIn_seq ?_))
 have hy:=iw l[i] (List.getElem_mem aG)
 have h5:=(n5 F1 (decide ((i:Int)<((l.length:Nat):Int))) ((l.length:Nat):Int) (i:Int) m d out l).trans (ae (eV (jN i) (cg aG)) (aa (a:=l[i]) (by rw[Int.toNat_natCast];exact List.getElem?_eq_getElem aG) rfl))
 refine wpIn_mono (IZ h5 5 ms1) ?_
 rintro e a2 W2 ⟨rfl,hc⟩
 refine wpIn_seq (wpIn_seq (wpIn_mono hc ?_))
 rintro e a3 W3 ⟨rfl,ms3⟩
 have TP:=I0 ms3 (i:=19) rfl
 rw[NI ht]at TP
 have IL:l.drop i=l[i]::l.drop (i+1):=List.drop_eq_getElem_cons aG
 rw[IL,jw]at FU
 by_cases hT:l[i]∈T
 ·rw[if_pos hT]at FU
  refine wpIn_cond_true (TP.trans (congrArg Value.bool (decide_eq_true hT))) (wpIn_exit ?_)
  show Code.wpIn _ _ _ _ _ _ _
  refine wpIn_mono (z5 (aaQ F1 _ _ _ m d l[i] out l) 5 ms3) ?_
  rintro e a4 W4 ⟨rfl,ms4⟩
  have ew:=bz aG (by omega)
  rw[ew]at ms4
  exact⟨l.length-(i+1),by omega,i+1,m,out,T,Ds,by omega,rfl,by omega,ms4,FU,ht⟩
 rw[if_neg hT]at FU
 refine wpIn_cond_false (TP.trans (congrArg Value.bool (decide_eq_false hT))) (wpIn_skip ?_)
 refine wpIn_seq (wpIn_mono (IZ (n7 F1 _ _ _ m d l[i] out l) 5 ms3) ?_)
 rintro e a4 W4 ⟨rfl,hc⟩
 refine wpIn_seq (wpIn_seq (wpIn_mono hc ?_))
 rintro e a5 W5 ⟨rfl,ms5⟩
 refine wpIn_block (wpIn_mono (NH 5 wf hy ms5) ?_)
 rintro e a6 W6 ⟨rfl,ms6⟩
 have FR:=(n12 F1 ((l.length:Nat):Int) (i:Int) (tell m (aW d l[i])) (aW d l[i]) d out l).trans (ae (fits (by omega)) rfl)
 refine wpIn_mono (z5 FR 5 ms6) ?_
 rintro e a7 W7 ⟨rfl,ms7⟩
 refine wpIn_mono (z5 (n13 F1 _ _ _) 5 ms7) ?_
 rintro e a8 W8 ⟨rfl,ms8⟩
 have ew:=bz aG (by omega)
 rw[ew]at ms8
 exact⟨l.length-(i+1),by omega,i+1,_,_,_,_,by omega,rfl,by simp;omega,ms8,FU,ht.tell _⟩
end Go.Vs
