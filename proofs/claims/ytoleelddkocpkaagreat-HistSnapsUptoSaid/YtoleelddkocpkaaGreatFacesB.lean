/- The walk of the function that -/
import Derived.Test.YtoleelddkocpkaaGreatFacesA
set_option linter.unusedSimpArgs false
set_option linter.unusedVariables false
namespace Go.Vs
open Go.Proofs Go.Cy
variable {Z Z' Z0:Nat→Prop} {ψ ψ' ψ0 wO Df:Nat→Value} {h h':Hp} {w w' w0:World} {B0:Nat} {O N:Nat→Prop}
theorem XG{p:Nat→Prop}(h:∃n,p n):∃n,p n∧∀m,m<n→¬p m:=by
 obtain⟨n,hn⟩:=h
 induction n using Nat.strongRecOn with
 |_ n ih =>
  grind
open Classical in
noncomputable def least(p:Nat→Prop):Nat:=if h:∃n,p n then Classical.choose (XG h) else 0
theorem FV{p:Nat→Prop}(h:∃n,p n):p (least p)∧∀m,p m→least p≤m:=by
 unfold least
 grind
theorem Kr{F:Fence}{n:Nat}{P:Program}{c:Code}{Q:Exit→Act→World→Prop}(I:Nat→Act→World→Prop){k:Nat}{a:Act}{w:World}(h0:I k a w) (round:∀k a w,I k a w→c.wpIn F n P (Exit.then (fun a' w'=>∃k',k'<k∧I k' a' w') Q) a w):(Code.loop c).wpIn F n P Q a w:=by
 refine wpIn_loop (fun a w=>∃k,I k a w) (fun a w=>least fun k=>I k a w) ⟨k,h0⟩ fun a w hI=>?_;obtain⟨h1,_⟩:=FV hI;refine wpIn_mono (round _ a w h1) fun e a' w' hq=>?_
 cases e with
 |normal=>obtain⟨k',h2,h3⟩:=hq;exact⟨⟨k',h3⟩,Nat.lt_of_le_of_lt ((FV ⟨k',h3⟩).2 k' h3) h2⟩
 |_=>exact hq
abbrev hU(x:ag)(d:ar):Heap:=(aA U0 ((),(((x,()),((d,()),())),()))).heap
abbrev hB(x:ag)(d:ar)(y:ag):Heap:=(aA U1 ((true,()),(((x,()),((d,()),((y,()),()))),()))).heap
def qT(m:Tm)(y:ag):Tm:=j4 bz y true m
def tell(m:Tm)(l:List ag):Tm:=l.foldl qT m
theorem TE(m:Tm)(l:List ag)(y:ag):tell m (l++[y])=qT (tell m l) y:=by simp[tell]
structure Bt(W1:World)(Z1:Nat→Prop)(OA OB:Nat→Prop)(B0:Nat)(O:Nat→Prop)(l:Nat)(rc:Loop)(tm:Array Value)(m:Tm)(f:List ag)(x:ag)(d:ar)(y:ag)(Z:Nat→Prop)(wO Df:Nat→Value)(a:Act)(W:World):Prop where
 gA:Good Z wO (hA m f).get W B0 O
 gB:Good Z Df (hB x d y).get W B0 O
 ap:iX (Own Df (hB x d y).get) Z (Own wO (hA m f).get) W
 s:Sl tm Z wO (hA m f).get W
 hl:W.heap[l]? = some (.loop rc)
 fl:iX (·=l) Z (fun b=>Own wO (hA m f).get b∨Own Df (hB x d y).get b) W
 tr:Tr (·=l) Z1 (fun b=>OA b∨OB b) W1 Z (fun b=>Own wO (hA m f).get b∨Own Df (hB x d y).get b) W
 a0:a.tmps.getD 0 undef=.func (.yield l) #[] #[]
 b0:B0≤W.heap.size
theorem adR{W:World}{x y:ag}{d:ar}{v:Value}(g:Good Z Df (hB x d y).get W B0 O)(hr:aD Z Df (hB x d y).get W (.ref 20004 0 0 0) v):∃V,(Instr.loadAt 40 v).run Tryz.prog W=.ok V W∧∀ψ h,aD Z ψ h W (cp bz y) V:=by
 have hb:(hB x d y).get 20004=some (.box 40 (enc bz y)):=rfl;obtain⟨q,vs,e1,e2,e3,e4⟩:=g.box _ _ _ hb;simp only[aD]at hr;obtain⟨ad,rfl,h2⟩:=hr;have h3:=h2 (by rw[hb];simp);rw[e1]at h3;have h3:ad=⟨q,0,none⟩:=h3;subst h3;obtain⟨V,h4,h5⟩:=kP (P:=Tryz.prog) (t:=40) (a:=⟨q,0,none⟩) (x:=cp bz y) e3 (fun j u hu=>by
  rw[cF,Nat.zero_add]
  grind [World.cell?]) (by kernel_rfl)
 exact⟨V,h4,fun ψ h=>h5.move (p:=fun _=>False) (fun _ h=>h) (cG.refl _ _) (fun _ k=>k.elim) (qk _ bz y)⟩
structure Itr(W1:World)(Z1:Nat→Prop)(OA OB:Nat→Prop)(B0:Nat)(O:Nat→Prop)(l:Nat)(rc:Loop)(tm:Array Value)(m:Tm)(f:List ag)(Z:Nat→Prop)(wO:Nat→Value)(W:World):Prop where
 gA:Good Z wO (hA m f).get W B0 O
 s:Sl tm Z wO (hA m f).get W
 hl:W.heap[l]? = some (.loop rc)
 tr:Tr (·=l) Z1 (fun b=>OA b∨OB b) W1 Z (Own wO (hA m f).get) W
theorem aao(n:Nat){W1:World}{m:Tm}{f:List ag}{x:ag}{d:ar}{l D:Nat}{fn:FuncId}{tm:Array Value}{px pd:Value}(wf:Wf d)(hx:x∈av d.1) (gA:Good Z wO (hA m f).get W1 B0 O) (gB:Good Z Df (hU x d).get W1 B0 O) (ap:iX (Own Df (hU x d).get) Z (Own wO (hA m f).get) W1) (hB0:B0≤W1.heap.size) (s:Sl tm Z wO (hA m f).get W1) (rx:aD Z Df (hU x d).get W1 (.ref 20002 0 0 0) px) (rd:aD Z Df (hU x d).get W1 (.ref 20003 0 0 0) pd) (hl:W1.heap[l]? = some (.loop (pR .ready fn tm D))) (fl:iX (·=l) Z (fun b=>Own wO (hA m f).get b∨Own Df (hU x d).get b) W1) (hf:f.length+(bp d x).length≤fH) :
  CallsIn (FW none) n Tryz.prog 234 #[.func (.yield l) #[] #[],px,pd] W1 fun e W'=>(∃v,e=.returned v)∧∃Z' ψ',Itr W1 Z (Own wO (hA m f).get) (Own Df (hU x d).get) B0 O l (pR .ready fn tm D) tm (tell m (bp d x)) (f++bp d x) Z' ψ' W':=by
 obtain⟨r0,htr,GL,br,hcy⟩:=FJ wf hx;refine callsIn_of_wp Tryz.func234 aan trivial ?_ rfl;obtain⟨G8,QZ⟩:∃t:Array Value,t=#[.func (.yield l) #[] #[],px,pd]++Array.replicate (Tryz.f234.ntmps-(#[.func (.yield l) #[] #[],px,pd]:Array Value).size) undef:=⟨_,rfl⟩;rw[←QZ];have hs0:G8.size=23:=by simp_all
 have e0:G8.getD 0 undef=.func (.yield l) #[] #[]:=by rw[QZ];simp
 have e1:G8.getD 1 undef=px:=by rw[QZ];simp
 have e2:G8.getD 2 undef=pd:=by rw[QZ];simp
 have t0:dm Z Df (hU x d).get W1 23 (look (aA U0 ((),(((x,()),((d,()),())),()))).tmps) { tmps:=G8,defers:=[] }:=by
  refine fK (fun p hp=>?_) hs0 rfl;have hp:p∈[(1,AV.ref 20002 0 0 0),(2,AV.ref 20003 0 0 0)]:=hp
  grind
 have zA:∀b,Z b→¬Own wO (hA m f).get b:=fun b hb=>(gA.zA b hb).2;have zl:∀b,Z b→¬b=l:=fun b hb e=>(fl l rfl).2.1 (e▸hb);refine wpIn_seq ?_;refine wpIn_mono (eR sB (u0 F1 x d) none n [] (Good.start gB) t0) ?_;rintro e a1 W2 ⟨rfl,a2,rfl,k1,jG,Z1,pV,adN,XD,t1⟩;obtain⟨Z2,fg,Co,t2⟩:=iB adN XD t1;have gB2:Good Z2 fg (hB x d x).get W2 B0 O:=Co.Py gB hB0;have tr2:Tr (fun _=>False) Z (Own Df (hU x d).get) W1 Z2 (Own fg (hB x d x).get) W2:=Co.tr;have fA:iX (Own wO (hA m f).get) Z (Own Df (hU x d).get) W1:=fun b hb=>⟨gA.bT hb,fun hz=>zA b hz hb,fun h2=>(ap b h2).2.2 hb⟩;have gA2:Good Z2 wO (hA m f).get W2 B0 O:=tr2.part (fun b hb=>(gB.zA b hb).2) gA fA (fun _ _ h=>h) gB2.kO;obtain⟨fA2,_⟩:=tr2.free fA fun _ _ h=>h;have ap2:iX (Own fg (hB x d x).get) Z2 (Own wO (hA m f).get) W2:=fun b hb=>⟨gB2.bT hb,fun hz=>(gB2.zA b hz).2 hb,fun h2=>(fA2 b h2).2.2 hb⟩;have sm2:cG Z W1 W2:=tr2.same gB.zA fun _ _ h=>h;have s2:Sl tm Z2 wO (hA m f).get W2:=⟨s.n,s.t4.less Co.g9 sm2 fun i hi=>⟨hi,rfl⟩,s.t7.less Co.g9 sm2 fun i hi=>⟨hi,rfl⟩⟩;obtain⟨XE,tL⟩:=(tr2.beside (Own wO (hA m f).get)).free (X:=(·=l)) (fun b hb=>⟨(fl b hb).1,(fl b hb).2.1,fun h=>(fl b hb).2.2 h.symm⟩) fun _ _ h=>h;rw[eF];refine wpIn_block ?_;have start:Bt W1 Z (Own wO (hA m f).get) (Own Df (hU x d).get) B0 O l (pR .ready fn tm D) tm m f x d x Z2 wO fg a2 W2 :=⟨gA2,gB2,ap2,s2,(tL l rfl).trans hl,fun b hb=>⟨(XE b hb).1,(XE b hb).2.1,fun h=>(XE b hb).2.2 h.symm⟩,(tr2.beside (Own wO (hA m f).get)).less (fun b h=>h.symm) (fun b h=>h.symm) (fun _ h=>h.elim),(k1 0 (by simp)).trans e0,acR hB0 tr2.size⟩;refine Kr (fun k a W=>∃pre y rest Z' anw ah8 b,bp d x=pre++y::rest∧k=rest.length∧Bt W1 Z (Own wO (hA m f).get) (Own Df (hU x d).get) B0 O l (pR .ready fn tm D) tm (tell m pre) (f++pre) x d y Z' anw ah8 a W ∧ dm Z' ah8 (hB x d y).get W 23 (look (aA U1 ((b,()),(((x,()),((d,()),((y,()),()))),()))).tmps) a) (k:=r0.length) ⟨[],x,r0,Z2,wO,fg,true,htr,rfl,by rw[List.append_nil];exact start,t2⟩ ?_;rintro k a W ⟨pre,y,rest,Z3,UK,Eb,bb,xQ,rfl,bt,t3⟩;have hy:y∈av d.1:=br y (by grind);have r4:aD Z3 Eb (hB x d y).get W (.ref 20004 0 0 0) (a.tmps.getD 4 undef):=t3.rep 4;obtain⟨V,hV,rV⟩:=adR bt.gB r4;have hlen:(f++pre).length+1≤fH:=by
  grind
 have rin:=XC (n-1) bt.gA bt.b0 bt.s (rV UK _) hlen bt.hl (fun b hb=>⟨(bt.fl b hb).1,(bt.fl b hb).2.1,fun h=>(bt.fl b hb).2.2 (.inl h)⟩);have GZ:(Instr.yield l #[V]).run Tryz.prog W=.ok (.round l fn (tm.setIfInBounds 23 V) (r6 9) bd) W:=by have:=run_yield (P:=Tryz.prog) (args:=#[V]) bt.hl rfl;simp_all [pR]
 refine wpIn_seq (wpIn_seq ?_);refine XF n t3.size bt.a0 hV GZ (rin.mono ?_);rintro e W4 ⟨rfl,Z4,Ra,Nc⟩;refine⟨.bool true,rfl,?_⟩;obtain⟨b,hb⟩:∃b,b=((a.put (some 7) (.func (.yield l) #[] #[])).put (some 8) V).put (some 9) (.bool true):=⟨_,rfl⟩;rw[←hb];have other:∀i,i≠7→i≠8→i≠9→b.tmps.getD i undef=a.tmps.getD i undef:=fun i h7 h8 h9=>by rw[hb,dx _ _ (fun j hj=>by simp_all),dx _ _ (fun j hj=>by simp_all),dx _ _ (fun j hj=>by simp_all)]
 have bsz:b.tmps.size=23:=by rw[hb,cY,cY,cY];exact t3.size
 have bdf:b.defers=[]:=by rw[hb,put_defers,put_defers,put_defers];exact t3.defers
 have b9:b.eval (.tmp 9)=.bool true:=by
  have:((a.put (some 7) (.func (.yield l) #[] #[])).put (some 8) V).tmps.size=23:=by grind [cY]
  rw[hb];show(((a.put (some 7) (.func (.yield l) #[] #[])).put (some 8) V).put (some 9) (.bool true)).tmps.getD 9 undef=_;rw[jm (by omega),if_pos rfl]
 refine wpIn_cond_true b9 (wpIn_skip (wpIn_block (wpIn_seq ?_)));have z3l:∀q,Z3 q→¬q=l:=fun q hq e=>(bt.fl l rfl).2.1 (e▸hq);have bl:∀q,Own Eb (hB x d y).get q→¬q=l:=fun q hq e=>(bt.fl l rfl).2.2 (.inr (e▸hq));have gB4:Good Z4 Eb (hB x d y).get W4 B0 O:=Nc.tr.part (fun q hq=>(bt.gA.zA q hq).2) bt.gB bt.ap (fun q hq=>hq.elim (z3l q) (bl q)) Nc.g.kO;obtain⟨ap4,_⟩:=Nc.tr.free bt.ap bl;have sm4:cG Z3 W W4:=Nc.tr.same bt.gA.zA z3l;have t4:dm Z4 Eb (hB x d y).get W4 23 (look (aA U1 ((bb,()),(((x,()),((d,()),((y,()),()))),()))).tmps) b:=by
  have up:∀i v,i≠7→i≠8→i≠9→look (aA U1 ((bb,()),(((x,()),((d,()),((y,()),()))),()))).tmps i=v→aD Z4 Eb (hB x d y).get W4 v (b.tmps.getD i undef):=fun i v h7 h8 h9 e=>by rw[other i h7 h8 h9,←e];exact(t3.rep i).less Nc.tr.g9 sm4 fun j hj=>⟨hj,rfl⟩
  refine fK (fun p hp=>?_) bsz bdf;have hp:p∈[(5,AV.bool bb),(1,AV.ref 20002 0 0 0),(2,AV.ref 20003 0 0 0),(4,AV.ref 20004 0 0 0)]:=hp;simp only[List.mem_cons,List.not_mem_nil,or_false]at hp;rcases hp with rfl|rfl|rfl|rfl
  ·exact up 5 _ (by decide) (by decide) (by decide) rfl
  ·exact up 1 _ (by decide) (by decide) (by decide) rfl
  ·exact up 2 _ (by decide) (by decide) (by decide) rfl
  ·exact up 4 _ (by decide) (by decide) (by decide) rfl
 have hB4:B0≤W4.heap.size:=acR bt.b0 Nc.tr.size;have anx:F1 235 H5 ((d,((y.1,y.2),())),())=some ((ph d y,(true,())),()):=by have:=XA rfl (ahU hg0 d y wf);rw[MV wf hy]at this;exact this
 have hn:=(u2 F1 bb x y d).trans (aa anx rfl);have run:=eR sB hn none n [] (Good.start gB4) t4;rw[eF]at run;refine wpIn_mono run ?_;clear run;rintro e a5 W5 ⟨rfl,a6,rfl,k6,st6,Z6,ψ6,adP,ok6,t6⟩;refine wpIn_seq ?_;refine wpIn_mono (eR sB adP none n [] ok6 t6) ?_;rintro e a7 W7 ⟨rfl,a8,rfl,k8,st8,Z8,ψ8,anz,ok8,t8⟩;obtain⟨Z9,ψ9,ok9,t9⟩:=iB anz ok8 t8;rw[eF];have gB9:Good Z9 ψ9 (hB x d (ph d y)).get W7 B0 O:=ok9.Py gB4 hB4;have tr9:Tr (fun _=>False) Z4 (Own Eb (hB x d y).get) W4 Z9 (Own ψ9 (hB x d (ph d y)).get) W7:=ok9.tr;have fA4:iX (Own Ra (hA (qT (tell m pre) y) (f++pre++[y])).get) Z4 (Own Eb (hB x d y).get) W4:=fun q hq=>⟨Nc.g.bT hq,fun hz=>(Nc.g.zA q hz).2 hq,fun h2=>(ap4 q h2).2.2 hq⟩;have gA9:Good Z9 Ra (hA (qT (tell m pre) y) (f++pre++[y])).get W7 B0 O:=tr9.part (fun q hq=>(gB4.zA q hq).2) Nc.g fA4 (fun _ _ h=>h) gB9.kO;obtain⟨fA9,_⟩:=tr9.free fA4 fun _ _ h=>h;have ap9:iX (Own ψ9 (hB x d (ph d y)).get) Z9 (Own Ra (hA (qT (tell m pre) y) (f++pre++[y])).get) W7:=fun q hq=>⟨gB9.bT hq,fun hz=>(gB9.zA q hz).2 hq,fun h2=>(fA9 q h2).2.2 hq⟩;have sm9:cG Z4 W4 W7:=tr9.same gB4.zA fun _ _ h=>h;have s9:Sl tm Z9 Ra (hA (qT (tell m pre) y) (f++pre++[y])).get W7:=⟨Nc.s.n,Nc.s.t4.less ok9.g9 sm9 fun i hi=>⟨hi,rfl⟩,Nc.s.t7.less ok9.g9 sm9 fun i hi=>⟨hi,rfl⟩⟩;have trB:Tr (·=l) Z1 (fun q=>Own wO (hA m f).get q∨Own Df (hU x d).get q) W1 Z1 (fun q=>Own wO (hA m f).get q∨Own Df (hU x d).get q) W1:=Tr.refl;have tr4:Tr (·=l) Z (fun q=>Own wO (hA m f).get q∨Own Df (hU x d).get q) W1 Z9 (fun q=>Own Ra (hA (qT (tell m pre) y) (f++pre++[y])).get q∨Own ψ9 (hB x d (ph d y)).get q) W7 :=(bt.tr.trans (Nc.tr.beside _)).trans ((tr9.beside (Own Ra (hA (qT (tell m pre) y) (f++pre++[y])).get)).less (fun q h=>h.symm) (fun q h=>h.symm) (fun _ h=>h.elim));have fl4:iX (·=l) Z4 (fun q=>Own Ra (hA (qT (tell m pre) y) (f++pre++[y])).get q∨Own Eb (hB x d y).get q) W4:=fun q hq=>by
  have hq:q=l:=hq;subst hq;have h0:=bt.fl q rfl;refine⟨adf h0.1 Nc.tr.size,fun hz=>?_,fun ho=>?_⟩
  ·rcases Nc.tr.fq q hz with e|e|e
   ·exact h0.2.1 e
   ·simp_all
   omega
  ·rcases ho with ho|ho
   ·rcases Nc.tr.own q ho with e|e
    ·simp_all
    omega
   simp_all
 obtain⟨fl9,hl9⟩:=(tr9.beside (Own Ra (hA (qT (tell m pre) y) (f++pre++[y])).get)).free (X:=(·=l)) (fun q hq=>⟨(fl4 q hq).1,(fl4 q hq).2.1,fun h=>(fl4 q hq).2.2 h.symm⟩) fun _ _ h=>h;have a8z:a8.tmps.getD 0 undef=.func (.yield l) #[] #[]:=(k8 0 (by simp)).trans ((k6 0 (by simp)).trans ((other 0 (by decide) (by decide) (by decide)).trans bt.a0));have aic:W7.heap[l]? = some (.loop (pR .ready fn tm D)):=(hl9 l rfl).trans Nc.l;have h22:a8.eval (.tmp 22)=.bool (((((ph d y).1.1==x.1.1)&&((ph d y).1.2==x.1.2))&&((ph d y).2==x.2))):=t9.rep 22;have aid:qT (tell m pre) y=tell m (pre++[y]):=(TE m pre y).symm;have anD:f++pre++[y]=f++(pre++[y]):=List.append_assoc _ _ _;rw[aid,anD]at gA9 ap9 s9 tr4 fl9;have hp:Path (ph d) (pre++y::rest) x:=by rw[←xQ,htr];exact hcy
 have hpy:ph d y=rest.head?.getD x:=(Path.app.1 hp).2.1;rw[vY]at h22
 cases rest with
 |nil =>
  have e:ph d y=x:=hpy;refine wpIn_cond_true (h22.trans (congrArg Value.bool (decide_eq_true e))) (wpIn_ret ?_);have Cz:(results Tryz.f234 a8.tmps).run Tryz.prog W7=.ok (.tuple #[]) W7:=by
   have hr:Tryz.f234.results=#[]:=by kernel_rfl
   grind [results_none]
  refine⟨t9.defers,_,Cz,⟨_,rfl⟩,Z9,Ra,?_⟩;rw[xQ];exact⟨gA9,s9,aic,tr4.less (fun _ h=>h) (fun q h=>.inl h) fun _ h=>h⟩
 |cons y' r =>
  have e:ph d y=y':=hpy;have bA:ph d y≠x:=fun k=>by
   rw[htr]at xQ;have adT:=GL;rw[xQ]at adT;have h1:x∈pre++[y]:=by
    cases pre with
    |nil=>grind
    |cons q t=>simp at xQ;simp[xQ.1]
   rw[show pre++y::y'::r=(pre++[y])++y'::r by simp]at adT;exact(adz.1 adT).2.2 x h1 y' acD (k.symm.trans e)
  refine wpIn_cond_false (h22.trans (congrArg Value.bool (decide_eq_false bA))) (wpIn_skip ?_);rw[e]at gB9 ap9 tr4 fl9 t9;refine⟨r.length,by simp,pre++[y],y',r,Z9,Ra,ψ9,true,by rw[xQ];simp,rfl,⟨gA9,gB9,ap9,s9,aic,fun q hq=>⟨(fl9 q hq).1,(fl9 q hq).2.1,fun h=>(fl9 q hq).2.2 h.symm⟩,tr4,a8z,acR hB4 tr9.size⟩,?_⟩;refine fK (fun p hp=>?_) t9.size t9.defers;have hp:p∈[(5,AV.bool true),(1,AV.ref 20002 0 0 0),(2,AV.ref 20003 0 0 0),(4,AV.ref 20004 0 0 0)]:=hp;simp only[List.mem_cons,List.not_mem_nil,or_false]at hp;rcases hp with rfl|rfl|rfl|rfl
  ·exact t9.rep 5
  ·exact t9.rep 1
  ·exact t9.rep 2
  ·exact t9.rep 4
end Go.Vs
namespace Go.Vs
open Go.Proofs Go.Cy
variable {Z Z' Z0:Nat→Prop} {ψ ψ' ψ0 wO Df:Nat→Value} {h h':Hp} {w w' w0:World} {B0:Nat} {O N:Nat→Prop}
abbrev Gy:Nat→Prop:=fun _=>False
def YX(D:Nat):Deferred:={ target:=.collected D,args:=#[] }
structure MsX(Z0:Nat→Prop)(w0:World)(Ds:List Nat)(sh:Shape)(x:sh.T)(a:Act)(W:World)(a0:Act)(Z:Nat→Prop)(ψ:Nat→Value):Prop where
 e:a=mz (Ds.map YX) a0
 wk:Wk Z0 w0 Gy Z W
 g:Good Z ψ (aA sh x).heap.get W w0.heap.size Gy
 t:dm Z ψ (aA sh x).heap.get W 36 (look (aA sh x).tmps) a0
 nd:Ds.Nodup
 m:∀D,D∈Ds→W.heap[D]? = some (.deferred (some []))∧w0.heap.size≤D
 fr:iX (·∈Ds) Z (Own ψ (aA sh x).heap.get) W
def Ms(Z0:Nat→Prop)(w0:World)(Ds:List Nat)(sh:Shape)(x:sh.T)(a:Act)(W:World):Prop:=∃a0 Z ψ,MsX Z0 w0 Ds sh x a W a0 Z ψ
variable {Ds:List Nat} {sh sh':Shape} {x:sh.T} {x':sh'.T} {a:Act} {W:World}
theorem Ks{c:Code}{R:Type}{kk:St→Option R}{y:R}(hx:rn F1 36 [] c (aA sh x) kk=some y)(n:Nat){a0:Act}(s:MsX Z0 w0 Ds sh x a W a0 Z ψ) :
  c.wpIn (FW none) n Tryz.prog (Aft 36 [] (fun d=>a0.tmps.getD d undef) (Ds.map YX) kk y Z W (Own ψ (aA sh x).heap.get) ψ) a W:=by
 rw[s.e];exact eR sB hx none n _ (Good.start s.g) s.t
theorem PB{st:St}{a1:Act}{W':World}(s:MsX Z0 w0 Ds sh x a W a1 Z ψ)(BH:db sh' st=some x'){ψ':Nat→Value}{Z':Nat→Prop}{a2:Act}(ok:Ok Z W (Own ψ (aA sh x).heap.get) ψ Z' ψ' st.heap.get W')(t:dm Z' ψ' st.heap.get W' 36 (look st.tmps) a2):Ms Z0 w0 Ds sh' x' (mz (Ds.map YX) a2) W':=by obtain⟨Z2,fg,Co,t2⟩:=iB BH ok t;obtain⟨f1,f2⟩:=(Co.tr (L:=Gy)).free s.fr fun _ _ h=>h;exact⟨a2,Z2,fg,rfl,s.wk.step (Co.tr (L:=Gy)) s.g.from (fun _ h=>h.elim),Co.Py s.g s.wk.size,t2,s.nd,fun D hD=>⟨(f2 D hD).trans (s.m D hD).1,(s.m D hD).2⟩,f1⟩
theorem FY{c:Code}(hx:rn F1 36 [] c (aA sh x) (db sh')=some x')(n:Nat)(s:Ms Z0 w0 Ds sh x a W):c.wpIn (FW none) n Tryz.prog (fun e a' W'=>e=.normal∧Ms Z0 w0 Ds sh' x' a' W') a W:=by obtain⟨a0,Z,ψ,s⟩:=s;refine wpIn_mono (Ks hx n s) ?_;rintro e a1 W1 ⟨rfl,a2,rfl,_,st,Z1,pV,BH,ok,t⟩;exact⟨rfl,PB s BH ok t⟩
theorem Rb{c c':Code}(hx:(rn F1 36 [] c (aA sh x) fun st=>rn F1 36 [] c' st (db sh'))=some x')(n:Nat)(s:Ms Z0 w0 Ds sh x a W) :
  c.wpIn (FW none) n Tryz.prog (fun e a' W'=>e=.normal∧c'.wpIn (FW none) n Tryz.prog (fun e a' W'=>e=.normal∧Ms Z0 w0 Ds sh' x' a' W') a' W') a W:=by
 obtain⟨a0,Z,ψ,s⟩:=s;refine wpIn_mono (Ks hx n s) ?_;rintro e a1 W1 ⟨rfl,a2,rfl,_,st,Z1,pV,BH,ok,t⟩;refine⟨rfl,wpIn_mono (eR sB BH none n _ ok t) ?_⟩;rintro e a3 W3 ⟨rfl,a4,rfl,_,st3,Z3,UK,adU,ok3,t3⟩;exact⟨rfl,PB s adU ok3 t3⟩
abbrev hC(d:ar)(out:List (List ag))(l:List ag):Heap:=[(20004,.box 27 (enc dX d))]++tH rws ((out,(l,())):NX (rws.map (·.2.2)))
theorem Dg{i:Nat}{v:Value}(hr:aD Z ψ h w (.bO i) v)(hi:h' i≠none→h i≠none∧ψ' i=ψ i):aD Z' ψ' h' w' (.bO i) v:=by
 grind [aD]
theorem FZ{m:Tm}{f:List ag}{i:Nat}(h:(hA m f).get i≠none):i=20000∨i=9000∨i=20001∨i=9016:=by
 have e:hA m f=[(20000,.box 201 [.bO 9000]),(9000,.own (.map bz .bool) m),(20001,.box 36 [.bO 9016]),(9016,.own (.row 40 bz) f)]:=rfl;rw[e]at h;simp only[Heap.get]at h
 grind
theorem Kt{x:ag}{d:ar}{i:Nat}(h:(hU x d).get i≠none):i=20002∨i=20003:=by
 have e:hU x d=[(20002,.box 40 (enc bz x)),(20003,.box 27 (enc dX d))]:=rfl;rw[e]at h;simp only[Heap.get]at h
 grind
theorem F2{d:ar}{out:List (List ag)}{l:List ag}{i:Nat}(h:(hC d out l).get i≠none):i=20004∨i=31000∨i=31001:=by
 have e:hC d out l=[(20004,.box 27 (enc dX d)),(31000,.own (.row 36 (.sl bz)) out),(31001,.own (.row 40 bz) l)]:=rfl;rw[e]at h;simp only[Heap.get]at h
 grind
theorem Bq{a b:Heap}{i:Nat}{o:Ob}(h:a.get i=some o):(a++b).get i=some o:=by rw[Heap.get_append,h]
theorem Br{a b:Heap}{i:Nat}(h:a.get i=none):(a++b).get i=b.get i:=by rw[Heap.get_append,h]
theorem Ku{h:Hp}{i:Nat}(k:h i≠none→False):h i=none:=by simp_all
theorem F3{a b c:Heap}(g:Good Z ψ c.get w B0 O)(sa:∀i o,a.get i=some o→c.get i=some o)(sb:∀i o,b.get i=some o→c.get i=some o)(dis:∀i,a.get i≠none→b.get i≠none→False):iX (Own ψ b.get) Z (Own ψ a.get) w:=by
 have up:∀{e:Heap} (se:∀i o,e.get i=some o→c.get i=some o) {i},e.get i≠none→c.get i≠none:=fun {e} se {i} hi=>by obtain⟨o,ho⟩:=abP.1 hi;simp_all
 rintro q ⟨i,h1,h2⟩;refine⟨g.bT ⟨i,up sb h1,h2⟩,(g.live i q (up sb h1) h2).1,?_⟩;rintro⟨j,h3,h4⟩;have e:=g.apart i j q (up sb h1) (up sa h3) h2 h4;simp_all
end Go.Vs
namespace Go.Vs
open Go.Proofs Go.Cy
variable {Z Z' Z0:Nat→Prop} {ψ ψ' ψ0 wO Df:Nat→Value} {h h':Hp} {w w' w0:World} {B0:Nat} {O N:Nat→Prop}
variable {Ds:List Nat} {a:Act} {W:World}
abbrev x3(n i:Int)(m:Tm)(f:List ag)(x:ag)(d:ar)(out:List (List ag))(l:List ag):S3.T:=((n,(i,())),(((m,()),((f,()),((x,()),((d,()),((d,()),()))))),(out,(l,()))))
abbrev x12(n i:Int)(m:Tm)(f:List ag)(d:ar)(out:List (List ag))(l:List ag):S12.T:=((n,(i,())),(((m,()),((f,()),((d,()),()))),(out,(l,()))))
set_option maxRecDepth 20000 in
theorem XH(k:Nat){n i:Int}{m:Tm}{x:ag}{d:ar}{out:List (List ag)}{l:List ag}(wf:Wf d)(hx:x∈av d.1)(s:Ms Z0 w0 Ds S3 (x3 n i m [] x d out l) a W) :
  cRF.wpIn (FW none) k Tryz.prog (fun e a' W'=>e=.normal∧Ms Z0 w0 (W.heap.size::Ds) S12 (x12 n i (tell m (bp d x)) (bp d x) d out l) a' W') a W:=by
 obtain⟨a0,Z,ψ,s⟩:=s;have hH:(aA S3 (x3 n i m [] x d out l)).heap=hA m []++(hU x d++hC d out l):=rfl;have hg:=s.g;have GS:=s.fr;have ht:=s.t;rw[hH]at hg GS ht;have sA:∀j o,(hA m []).get j=some o→(hA m []++(hU x d++hC d out l)).get j=some o:=fun j o e=>Bq e;have nA:∀{j},j=20002∨j=20003∨j=20004∨j=31000∨j=31001→∀m f,(hA m f).get j=none:=fun {j} hj m f=>Ku fun e=>by grind [FZ]
 have nU:∀{j},j=20004∨j=31000∨j=31001→(hU x d).get j=none:=fun {j} hj=>Ku fun e=>by grind [Kt]
 have sU:∀j o,(hU x d).get j=some o→(hA m []++(hU x d++hC d out l)).get j=some o:=fun j o e=>by
  have:=Kt (show(hU x d).get j≠none by rw[e];simp)
  grind [Br,Bq]
 have sC:∀j o,(hC d out l).get j=some o→(hA m []++(hU x d++hC d out l)).get j=some o:=fun j o e=>by
  have:=F2 (show(hC d out l).get j≠none by rw[e];simp)
  grind [Br]
 have gA:=hg.sub sA;have gU:=hg.sub sU;have gC:=hg.sub sC;have fUA:iX (Own ψ (hU x d).get) Z (Own ψ (hA m []).get) W:=F3 hg sA sU fun j h1 h2=>by grind [FZ,Kt]
 have fCA:iX (Own ψ (hC d out l).get) Z (Own ψ (hA m []).get) W:=F3 hg sA sC fun j h1 h2=>by grind [FZ,F2]
 have fCU:iX (Own ψ (hC d out l).get) Z (Own ψ (hU x d).get) W:=F3 hg sU sC fun j h1 h2=>by grind [Kt,F2]
 have h22:=ht.rep 22;have e22:look (aA S3 (x3 n i m [] x d out l)).tmps 22=.fn 234 [.ref 20002 0 0 0,.ref 20003 0 0 0]:=rfl;rw[e22]at h22;simp only[aD,az]at h22;obtain⟨ws,hv,px,_,hws,rx,pd,_,rfl,rd,rfl⟩:=h22;have hws:ws=#[px,pd]:=Array.ext' hws;subst hws;have less:∀{hp:Heap} {v:AV} {u:Value},(∀j o,hp.get j=some o→(hA m []++(hU x d++hC d out l)).get j=some o)→aD Z ψ (hA m []++(hU x d++hC d out l)).get W v u→aD Z ψ hp.get W v u:=fun {hp v u} hs hr=>hr.pJ hs;have rx:aD Z ψ (hU x d).get W (.ref 20002 0 0 0) px:=less sU (by grind [aD]);have rd:aD Z ψ (hU x d).get W (.ref 20003 0 0 0) pd:=less sU (by grind [aD]);have sl:Sl a0.tmps Z ψ (hA m []).get W:=⟨ht.size,less sA (ht.rep 4),less sA (ht.rep 7)⟩;rw[s.e];refine wpIn_rangeFunc ?_;intro fn _;obtain⟨D,hD⟩:∃D,D=W.heap.size:=⟨_,rfl⟩;obtain⟨W1,Il⟩:∃W1,W1=(W.alloc (.deferred (some []))).alloc (.loop (pR .ready fn a0.tmps D)):=⟨_,rfl⟩;have iY:W1.heap.size=D+2:=by rw[Il,hD];simp
 have dJ:∀b,b<W.heap.size→W1.heap[b]? = W.heap[b]? := fun b hb=>by
  grind [heap_alloc_old,World.size_alloc]
 have hL1:W1.heap[D+1]? = some (.loop (pR .ready fn a0.tmps D)):=by
  grind [World.alloc_heap_new,pR,World.size_alloc]
 have hD1:W1.heap[D]? = some (.deferred (some [])):=by
  grind [heap_alloc_old,World.size_alloc,World.alloc_heap_new]
 have lift:∀{hp:Heap} {ψ:Nat→Value},Good Z ψ hp.get W w0.heap.size Gy→Good Z ψ hp.get W1 w0.heap.size Gy:=fun {hp ψ} g=>g.same (fun _ h=>h) (fun b hb=>dJ b (hb.elim (g.kO b) g.bT)) (fun b hb hz=>(g.zA b hz).2 hb) fun b hb=>by have:=g.kO b hb;omega
 have sm1:cG Z W W1:=fun b hb=>dJ b (hg.kO b hb);have gA1:=lift gA;have gU1:=lift gU;have gC1:=lift gC;have up:∀{X A:Nat→Prop},iX X Z A W→iX X Z A W1:=fun {X A} f b hb=>⟨by have:=(f b hb).1;omega,(f b hb).2⟩;have sl1:Sl a0.tmps Z ψ (hA m []).get W1:=⟨sl.n,sl.t4.less (fun _ h=>h) sm1 fun j hj=>⟨hj,rfl⟩,sl.t7.less (fun _ h=>h) sm1 fun j hj=>⟨hj,rfl⟩⟩;have fresh:∀{hp:Heap} {b:Nat},Good Z ψ hp.get W w0.heap.size Gy→W.heap.size≤b→¬Z b∧¬Own ψ hp.get b:=fun {hp b} g hb=>⟨fun hz=>by have:=g.kO b hz;omega,fun ho=>by have:=g.bT ho;omega⟩;have fl0:∀b,D≤b→b<D+2→b<W1.heap.size∧¬Z b∧¬(Own ψ (hA m []).get b∨Own ψ (hU x d).get b):=fun b h1 h2 =>⟨by omega,(fresh gA (by omega)).1,fun h=>h.elim (fresh gA (by omega)).2 (fresh gU (by omega)).2⟩;have fl1:iX (·=D+1) Z (fun b=>Own ψ (hA m []).get b∨Own ψ (hU x d).get b) W1:=fun b hb=>fl0 b (by omega) (by omega);have hlen:([]:List ag).length+(bp d x).length≤fH:=by grind [Iq,fH]
 have it:=aao (k-1) wf hx gA1 gU1 (up fUA) (by rw[iY,hD];have:=s.wk.size;omega) sl1 (rx.less (fun _ h=>h) sm1 fun j hj=>⟨hj,rfl⟩) (rd.less (fun _ h=>h) sm1 fun j hj=>⟨hj,rfl⟩) hL1 fl1 hlen;refine⟨D+1,[YX D],W1,{ target:=.fn (.func 234) #[px,pd],args:=#[.func (.yield (D+1)) #[] #[]] },W1,234,#[.func (.yield (D+1)) #[] #[],px,pd],W1,?_,?_,fun _ _=>trivial,?_,fun h=>(by cases h),?_⟩
 ·rw[Il,hD];exact run_enterLoop_outer _ _ _ _ _
 ·rw[xO];have CR:a0.eval (.tmp 22)=.func (.func 234) #[] #[px,pd]:=hv;simp only[Go.resolve,CR];simp[go_sem]
 ·rfl
 refine it.mono ?_;rintro e W2 ⟨⟨v,rfl⟩,Z2,fg,TF⟩;refine⟨none,_,run_endLoop TF.hl (by simp[pR]),rfl,?_⟩;have tA:∀{X},iX X Z (fun b=>Own ψ (hA m []).get b∨Own ψ (hU x d).get b) W1→iX X Z2 (Own fg (hA (tell m (bp d x)) ([]++bp d x)).get) W2:=fun {X} f=>TF.tr.Na f;rw[List.nil_append]at TF;have fC1:iX (Own ψ (hC d out l).get) Z (fun b=>Own ψ (hA m []).get b∨Own ψ (hU x d).get b) W1:=fun b hb=>⟨(up fCA b hb).1,(up fCA b hb).2.1,fun h=>h.elim (fCA b hb).2.2 (fCU b hb).2.2⟩;have cD:∀b,Own ψ (hC d out l).get b→b<D:=fun b hb=>by grind
 have zD:∀b,Z b→b<D:=fun b hb=>by grind
 have gA2:=TF.gA;have gC2:Good Z2 ψ (hC d out l).get W2 w0.heap.size Gy:=TF.tr.part (fun b hb h=>h.elim (gA.zA b hb).2 (gU.zA b hb).2) gC1 fC1 (fun b hb e=>by grind) gA2.kO;have apC:iX (Own ψ (hC d out l).get) Z2 (Own fg (hA (tell m (bp d x)) (bp d x)).get) W2:=TF.tr.Na fC1;have XE:iX (·=D+1) Z2 (Own fg (hA (tell m (bp d x)) (bp d x)).get) W2:=TF.tr.Na fl1;have flC:iX (·=D+1) Z2 (Own ψ (hC d out l).get) W2:=fun b hb=>⟨(XE b hb).1,(XE b hb).2.1,fun h=>by grind⟩;have gA3:=gA2.putObj (o':=.loop { pR .ready fn a0.tmps D with state:=.exhausted }) XE;have gC3:=gC2.putObj (o':=.loop { pR .ready fn a0.tmps D with state:=.exhausted }) flC;obtain⟨W3,hW3⟩:∃W3,W3=W2.putObj (D+1) (.loop { pR .ready fn a0.tmps D with state:=.exhausted }):=⟨_,rfl⟩;rw[←hW3]at gA3 gC3 ⊢;have sm3:cG Z2 W2 W3:=by grind [pn]
 have apF:W3.heap.size=W2.heap.size:=by rw[hW3];simp
 have dis:∀j,(hA (tell m (bp d x)) (bp d x)).get j≠none→(hC d out l).get j=none:=fun j hj=>Ku fun e=>by have:=FZ hj;grind [F2]
 have apJ:∀q,Own fg (hA (tell m (bp d x)) (bp d x)).get q→¬Own ψ (hC d out l).get q:=fun q h1 h2=>(apC q h2).2.2 h1;have gJ:=gA3.join gC3 dis apJ (fun j ty cs hj=>by
  have e:=FZ (show(hA (tell m (bp d x)) (bp d x)).get j≠none by rw[hj];simp);rcases e with rfl|rfl|rfl|rfl
  ·cases hj
   show aF _ [.bO 9000];simp only[aF,aM];exact⟨fun k=>(by cases k),trivial⟩
  ·cases hj
  ·cases hj
   show aF _ [.bO 9016];simp only[aF,aM];exact⟨fun k=>(by cases k),trivial⟩
  ·cases hj) (fun j ty cs hj=>by
  have e:=F2 (show(hC d out l).get j≠none by rw[hj];simp);rcases e with rfl|rfl|rfl
  ·cases hj;exact uD d _
  ·cases hj
  ·cases hj)
 have anH:∀b,Own (sy (hA (tell m (bp d x)) (bp d x)).get fg ψ) (hA (tell m (bp d x)) (bp d x)++hC d out l).get b→Own fg (hA (tell m (bp d x)) (bp d x)).get b∨Own ψ (hC d out l).get b:=fun b ⟨j,h1,h2⟩=>by
  by_cases e:(hA (tell m (bp d x)) (bp d x)).get j=none
  ·rw[Br e]at h1;rw[qR e]at h2;exact .inr ⟨j,h1,h2⟩
  ·rw[qQ e]at h2;exact .inl ⟨j,e,h2⟩
 refine⟨a0,Z2,sy (hA (tell m (bp d x)) (bp d x)).get fg ψ,?_,?_,?_,?_,?_,?_,?_⟩
 ·show({ mz (Ds.map YX) a0 with defers:=[YX D]++(mz (Ds.map YX) a0).defers }:Act)=mz ((W.heap.size::Ds).map YX) a0;unfold mz;rw[ht.defers,←hD];rfl
 ·have o1:∀q,(Own ψ (hA m []).get q∨Own ψ (hU x d).get q)→w0.heap.size≤q∨Gy q:=fun q h=>h.elim (gA.from q) (gU.from q);have w1:Wk Z0 w0 Gy Z W1:=s.wk.step (A:=fun q=>Own ψ (hA m []).get q∨Own ψ (hU x d).get q) (B:=fun q=>Own ψ (hA m []).get q∨Own ψ (hU x d).get q) (L:=Gy) (Tr.cZ (by rw[Il];rfl) (by rw[Il];rfl) (by rw[Il];rfl) (by omega) fun b hb _=>dJ b hb) o1 fun _ h=>h.elim;have hDl:∀b,b=D+1→w0.heap.size≤b:=fun b hb=>by have:=s.wk.size;omega
  have w2:=w1.step TF.tr o1 hDl;rw[hW3];exact w2.step Bp gA2.from hDl
 ·exact gJ
 ·have q1:∀{j},(j=20000∨j=20001)→(hA (tell m (bp d x)) (bp d x)).get j≠none:=fun {j} hj=>by rcases hj with rfl|rfl<;>(intro k;cases k)
  have rA:∀{j u},(j=20000∨j=20001)→aD Z2 fg (hA (tell m (bp d x)) (bp d x)).get W2 (.ref j 0 0 0) u→aD Z2 (sy (hA (tell m (bp d x)) (bp d x)).get fg ψ) (hA (tell m (bp d x)) (bp d x)++hC d out l).get W3 (.ref j 0 0 0) u:=fun {j u} hj hr =>Kp (fun _ h=>h) hr fun _=>⟨q1 hj,qQ (q1 hj)⟩;have cN:∀{j},(j=20004∨j=31000∨j=31001)→(hA m []++(hU x d++hC d out l)).get j≠none∧sy (hA (tell m (bp d x)) (bp d x)).get fg ψ j=ψ j:=fun {j} hj=>by
   have e1:(hC d out l).get j≠none:=by rcases hj with rfl|rfl|rfl<;>(intro k;cases k)
   obtain⟨o,ho⟩:=abP.1 e1;exact⟨by grind,qR (nA (by omega) _ _)⟩
  refine fK (fun p hp=>?_) ht.size ht.defers;have hp:p∈[(12,AV.int .i64 n),(13,AV.int .i64 i),(4,AV.ref 20000 0 0 0),(7,AV.ref 20001 0 0 0),(1,AV.ref 20004 0 0 0),(3,AV.bO 31000),(11,AV.bO 31001)]:=hp;simp only[List.mem_cons,List.not_mem_nil,or_false]at hp;rcases hp with rfl|rfl|rfl|rfl|rfl|rfl|rfl
  ·exact ht.rep 12
  ·exact ht.rep 13
  ·exact rA (.inl rfl) TF.s.t4
  ·exact rA (.inr rfl) TF.s.t7
  ·exact Kp (fun b hb=>TF.tr.g9 b hb) (ht.rep 1) fun _=>cN (.inl rfl)
  ·exact Dg (ht.rep 3) fun _=>cN (.inr (.inl rfl))
  ·exact Dg (ht.rep 11) fun _=>cN (.inr (.inr rfl))
 ·refine acC.2 ⟨fun hm=>?_,s.nd⟩;have:=(GS _ hm).1;omega
 ·have keep:∀b,b<D+1→b<W1.heap.size→¬(Own ψ (hA m []).get b∨Own ψ (hU x d).get b)→W3.heap[b]? = W1.heap[b]? := fun b h1 h2 h3=>by rw[hW3,World.putObj_heap_other (by omega)];exact TF.tr.block b h2 h3 (by omega)
  intro q hq;rcases abq.1 hq with rfl|hq
  ·refine⟨?_,s.wk.size⟩;rw[←hD];exact(keep D (by omega) (by omega) (fl0 D (by omega) (by omega)).2.2).trans hD1
  ·have h0:=GS q hq;refine⟨?_,(s.m q hq).2⟩;have own:∀{hp:Heap},(∀j o,hp.get j=some o→(hA m []++(hU x d++hC d out l)).get j=some o)→¬Own ψ hp.get q:=fun {hp} hs ⟨j,h1,h2⟩=>h0.2.2 ⟨j,(by obtain⟨o,ho⟩:=abP.1 h1;rw[hs _ _ ho];simp),h2⟩;rw[keep q (by omega) (by omega) (fun h=>h.elim (own sA) (own sU)),dJ q h0.1];exact(s.m q hq).1
 ·intro q hq;have base:q<W1.heap.size∧¬Z q∧¬(Own ψ (hA m []).get q∨Own ψ (hU x d).get q)∧¬Own ψ (hC d out l).get q:=by
   rcases abq.1 hq with rfl|hq
   ·grind
   ·have h0:=GS q hq;have own:∀{hp:Heap},(∀j o,hp.get j=some o→(hA m []++(hU x d++hC d out l)).get j=some o)→¬Own ψ hp.get q:=fun {hp} hs ⟨j,h1,h2⟩=>h0.2.2 ⟨j,(by obtain⟨o,ho⟩:=abP.1 h1;rw[hs _ _ ho];simp),h2⟩;exact⟨by omega,h0.2.1,fun h=>h.elim (own sA) (own sU),own sC⟩
  have h2:=TF.tr.Na (X:=(·=q)) (fun b hb=>by grind) q rfl;exact⟨by omega,h2.2.1,fun h=>(anH q h).elim h2.2.2 base.2.2.2⟩
end Go.Vs
namespace Go.Vs
open Go.Proofs Go.Cy
variable {Z Z' Z0:Nat→Prop} {ψ ψ' ψ0 wO Df:Nat→Value} {h h':Hp} {w w' w0:World} {B0:Nat} {O N:Nat→Prop}
theorem Bu{β α:Type}[DecidableEq β]{x z:β}{v:α}:∀{es:List (β×α)} {i:Nat},(es.findIdx? fun e=>decide (e.1=x))=some i→fO z (es.set i (x,v))=if x=z then some v else fO z es
 |[],i,h=>by simp at h
 |e::r,i,h=>by
  rw[List.findIdx?_cons]at h;by_cases he:e.1=x
  ·rw[if_pos (decide_eq_true he)]at h
   cases h
   rw[List.set_cons_zero,fO,fO];show(if x=z then some v else fO z r)=_;rw[he];by_cases k:x=z
   ·rw[if_pos k,if_pos k]
   ·rw[if_neg k,if_neg k,if_neg k]
  ·rw[if_neg (by simpa using he)]at h;obtain⟨j,hj,rfl⟩:=acX.1 h;have ih:=Bu (z:=z) (v:=v) hj;rw[List.set_cons_succ,fO,fO,ih];by_cases k:e.1=z
   ·rw[if_pos k,if_neg (fun q=>he (k.trans q.symm)),if_pos k]
   ·rw[if_neg k,if_neg k]
theorem Bv{β α:Type}[DecidableEq β]{x z:β}{v:α}:∀{es:List (β×α)},(es.findIdx? fun e=>decide (e.1=x))=none→fO z (es++[(x,v)])=if x=z then some v else fO z es
 |[],_=>rfl
 |e::r,h=>by
  rw[List.findIdx?_eq_none_iff]at h;have he:e.1≠x:=by simp_all
  have ih:=Bv (z:=z) (v:=v) (es:=r) (List.findIdx?_eq_none_iff.2 fun q hq=>h q (abg _ hq));rw[List.cons_append,fO,fO,ih]
  grind
theorem TG{α:Type}(x z:ag)(v:α)(es:List (ag×α)):fO z (j4 bz x v es)=if x=z then some v else fO z es:=by
 have e:=Bn x es;unfold j4
 split
 ·rename_i i hi;exact Bu (e.symm.trans hi)
 ·rename_i hi;exact Bv (e.symm.trans hi)
def IS(m:Tm)(T:List ag):Prop:=∀z,(fO z m).getD false=decide (z∈T)
theorem IS.tell{m:Tm}{T:List ag}(h:IS m T)(l:List ag):IS (tell m l) (T++l):=by
 induction l generalizing m T with
 |nil=>rw[List.append_nil];exact h
 |cons y r ih =>
  have h1:IS (qT m y) (T++[y]):=fun z=>by
   unfold qT;rw[TG];by_cases k:y=z
   ·subst k;simp
   ·rw[if_neg k,h z]
    grind
  have:=ih h1;rw[List.append_assoc]at this;exact this
theorem XI{m:Tm}{T:List ag}(h:IS m T)(y:ag):(fG bz (y.1,y.2) m).getD false=decide (y∈T):=by have:=Pr y m;show(fG bz y m).getD false=_;rw[this];exact h y
abbrev x0(n i:Int)(m:Tm)(d:ar)(out:List (List ag))(l:List ag):S0.T:=((n,(i,())),(((m,()),((d,()),())),(out,(l,()))))
theorem Rc{Ds:List Nat}{sh:Shape}{x:sh.T}{a:Act}{W:World}(s:Ms Z0 w0 Ds sh x a W){i:Nat}{b:Bool}(e:look (aA sh x).tmps i=.bool b):a.eval (.tmp i)=.bool b:=by obtain⟨a0,Z,ψ,s⟩:=s;have:=s.t.rep i;rw[e]at this;rw[s.e,xO];exact this
theorem zN{n:Nat}{fn:Func}{tmps:Array Value}{R:Ending→World→Prop}:∀(Ds:List Nat) (W:World),Ds.Nodup→(∀D,D∈Ds→W.heap[D]? = some (.deferred (some []))) →(∀W',W'.os=W.os→W'.tape=W.tape→W'.output=W.output→W'.heap.size=W.heap.size→(∀b,b∉Ds→W'.heap[b]? = W.heap[b]?)→∃v,(results fn tmps).run Tryz.prog W'=.ok v W'∧R (.returned v) W') → LeavesInM (FW none) n Tryz.prog fn tmps R (Ds.map YX) .returning W
 |[],W,_,_,h=>h W rfl rfl rfl rfl fun _ _=>rfl
 |D::Ds,W,hn,hd,h=>by
  obtain⟨h1,h2⟩:=acC.1 hn;refine⟨by simp,.inl ⟨D,_,rfl,run_takeDeferred (hd D acD),?_⟩⟩;refine zN Ds _ h2 (fun E hE=>?_) fun W' e1 e2 e3 e4 e5=>?_
  ·grind [World.putObj_heap_other,List.mem_cons_of_mem]
  ·refine h W' e1 e2 e3 (e4.trans (by simp)) fun b hb=>?_
   grind [List.mem_cons_of_mem,World.putObj_heap_other,List.mem_cons_self]
abbrev SN:Shape:=⟨[(0,dX)],[],[],[]⟩
theorem TH{d:ar}(wf:Wf d):HM Tryz.prog 207 B8 ((d,()),()) ((cv d,()),()):=by
 intro Z ψ0 w lJ hg hr;have hr:az Z ψ0 (Heap.get []) w [cp dX d] lJ:=hr;have hg:Good Z ψ0 (Heap.get []) w w.heap.size (Own ψ0 (Heap.get [])):=hg;have F4:∀b,¬Own ψ0 (Heap.get []) b:=fun b ⟨i,h1,_⟩=>h1 rfl;simp only[az]at hr;obtain⟨u0,_,rfl,hu,rfl⟩:=hr;refine zM (r:=none) (n:=5) (callsIn_of_wp_marks Tryz.func207 aam trivial ?_ rfl);obtain⟨G8,QZ⟩:∃t:Array Value,t=#[u0]++Array.replicate (Tryz.f207.ntmps-(#[u0]:Array Value).size) undef:=⟨_,rfl⟩;show Code.wpIn _ _ _ _ _ { tmps:=#[u0]++Array.replicate (Tryz.f207.ntmps-(#[u0]:Array Value).size) undef,defers:=[] } w;rw[←QZ];have hs0:G8.size=36:=by simp_all
 have e0:G8.getD 0 undef=u0:=by rw[QZ];simp
 have ms0:MsX Z w [] SN ((d,()),((),())) { tmps:=G8,defers:=[] } w { tmps:=G8,defers:=[] } Z ψ0:=by refine⟨rfl,Wk.start Z w Gy,hg.Xz fun b h _=>(F4 b h).elim,fK (fun p hp=>?_) hs0 rfl,List.nodup_nil,fun D hD=>(by cases hD),fun D hD=>(by cases hD)⟩;have hp:p∈[(0,cp dX d)]:=hp;simp only[List.mem_cons,List.not_mem_nil,or_false]at hp;subst hp;show aD _ _ _ _ _ (G8.getD 0 undef);rw[e0];exact hu
 have anI:F1 223 yS ((d,()),())=some ((fE d.2,()),()):=XA rfl (ahV hg0 d wf.sm);have hn:=(anm F1 d).trans (aa anI rfl);refine wpIn_seq (wpIn_mono (Ks hn 5 ms0) ?_);rintro e a1 W1 ⟨rfl,a2,rfl,_,jG,Z1,pV,q1,XD,t1⟩;refine wpIn_seq (wpIn_mono (eR sB q1 none 5 _ XD t1) ?_);rintro e a3 W3 ⟨rfl,a4,rfl,_,st2,Z2,fg,q2,Co,t2⟩;refine wpIn_seq (wpIn_mono (eR sB q2 none 5 _ Co t2) ?_);rintro e a5 W5 ⟨rfl,a6,rfl,_,st3,Z3,UK,q3,ok3,t3⟩;refine wpIn_seq (wpIn_seq (wpIn_mono (eR sB q3 none 5 _ ok3 t3) ?_));rintro e a7 W7 ⟨rfl,a8,rfl,_,st4,Z4,Eb,q4,ok4,t4⟩;have ms:=PB ms0 q4 ok4 t4;clear q1 q2 q3 q4 XD Co ok3 ok4 t1 t2 t3 t4;obtain⟨l,hl⟩:∃l,l=fE d.2:=⟨_,rfl⟩;rw[←hl]at ms;have hll:l.length≤80:=by rw[hl,od];have:=wf.ne;omega
 have kA:∀y,y∈l→y∈av d.1:=fun y hy=>by rw[hl,mQ]at hy;exact wf.pd.mem_iff.2 hy
 refine wpIn_block ?_;refine Kr (fun k a W=>∃(i:Nat) (m:Tm) (out:List (List ag)) (T:List ag) (Ds:List Nat),i≤l.length∧k=l.length-i∧out.length≤i∧Ms Z w Ds S0 (x0 ((l.length:Nat):Int) (i:Int) m d out l) a W∧jx d (l.drop i) out T=cv d∧IS m T) (k:=l.length) ⟨0,[],[],[],[],ac6 _,rfl,abX _,ms,by rw[List.drop_zero,hl];rfl,fun z=>by simp[fO]⟩ ?_;rintro k a W ⟨i,m,out,T,Ds,hi,rfl,ho,ms,NH,ht⟩;refine wpIn_seq (wpIn_mono (FY (n4 F1 ((l.length:Nat):Int) (i:Int) _) 5 ms) ?_);rintro e a1 W1 ⟨rfl,ms1⟩;have h14:=Rc ms1 (i:=14) rfl;by_cases aG:i<l.length
 case neg =>
  have e:i=l.length:=by omega
  have ef:decide ((i:Int)<((l.length:Nat):Int))=false:=decide_eq_false (by omega);rw[ef]at h14;refine wpIn_seq (wpIn_cond_false h14 (wpIn_exit ?_));show Code.wpIn _ _ _ _ _ _ _;refine wpIn_seq (wpIn_mono (FY (n14 F1 _ _ _ m d out l) 5 ms1) ?_);rintro e a2 W2 ⟨rfl,ms2⟩;refine wpIn_ret ?_;obtain⟨a0,Z2,fg,s⟩:=ms2;rw[e,List.drop_eq_nil_of_le (Nat.le_refl _)]at NH;have NH:out=cv d:=NH;rw[s.e];show LeavesInM _ _ _ _ a0.tmps _ (a0.defers++Ds.map YX) .returning W2;rw[s.t.defers,List.nil_append];refine zN Ds W2 s.nd (fun D hD=>(s.m D hD).1) fun W3 e1 e2 e3 e4 e5=>?_;have Cz:Tryz.f207.results=#[.tmp 2]:=by kernel_rfl
  have nZ:∀b,Z2 b∨Own fg (aA SE ((),((),(out,())))).heap.get b→b∉Ds:=fun b hb hD=>by have:=s.fr b hD;exact hb.elim this.2.1 this.2.2
  have g3:Good Z2 fg (aA SE ((),((),(out,())))).heap.get W3 w.heap.size Gy:=s.g.same (fun _ h=>h) (fun b hb=>e5 b (nZ b hb)) (fun b hb hz=>(s.g.zA b hz).2 hb) fun b hb=>by rw[e4];exact s.g.kO b hb
  have k3:Wk Z w Gy Z2 W3:=⟨s.wk.g9,s.wk.fq,e1.trans s.wk.os,e2.trans s.wk.tape,e3.trans s.wk.output,by rw[e4];exact s.wk.size,fun b hb ho=>by rw[e5 b (fun hD=>by have:=(s.m b hD).2;omega)];exact s.wk.block b hb ho⟩;refine⟨_,results_tmp Cz _ _ _,_,Z2,fg,rfl,k3.g9,fun b hb=>?_,⟨k3.os,k3.tape,k3.output,k3.size,fun b hb _=>k3.block b hb fun h=>h⟩,?_,fun i hi=>(by cases hi),?_⟩
  ·rcases k3.fq b hb with h|h|h
   ·exact .inl h
   ·exact h.elim
   omega
  ·rw[NH]at g3;exact g3.Xz fun b _ hb=>hb.elim .inl fun h=>h.elim
  ·have r2:=s.t.rep 2;have:aD Z2 fg (aA SE ((),((),(out,())))).heap.get W2 (.bO 3000) (a0.tmps.getD 2 undef):=r2;rw[NH]at this;simp only[aD]at this;show aD Z2 fg _ W3 (.bO 3000) _;simp only[aD];exact this
 have et:decide ((i:Int)<((l.length:Nat):Int))=true:=aJ aG;rw[et]at h14;refine wpIn_seq (wpIn_cond_true h14 (wpIn_skip ?_));refine wpIn_seq (wpIn_block (wpIn_seq ?_));have hy:=kA l[i] (acG aG);have h5:=(n5 F1 (decide ((i:Int)<((l.length:Nat):Int))) ((l.length:Nat):Int) (i:Int) m d out l).trans (ae (dw (kl i) (aJ aG)) (aa (a:=l[i]) (by simp_all) rfl));refine wpIn_mono (Rb h5 5 ms1) ?_;rintro e a2 W2 ⟨rfl,hc⟩;refine wpIn_seq (wpIn_seq (wpIn_mono hc ?_));rintro e a3 W3 ⟨rfl,ms3⟩;have h19:=Rc ms3 (i:=19) rfl;rw[XI ht]at h19;have QP:l.drop i=l[i]::l.drop (i+1):=aeg aG;rw[QP,jx]at NH;by_cases hT:l[i]∈T
 ·rw[if_pos hT]at NH;refine wpIn_cond_true (h19.trans (congrArg Value.bool (decide_eq_true hT))) (wpIn_exit ?_);show Code.wpIn _ _ _ _ _ _ _;refine wpIn_mono (FY (ano F1 _ _ _ m d l[i] out l) 5 ms3) ?_;rintro e a4 W4 ⟨rfl,ms4⟩;have ew:=aB aG (by omega);rw[ew]at ms4;exact⟨l.length-(i+1),by omega,i+1,m,out,T,Ds,by omega,rfl,by omega,ms4,NH,ht⟩
 rw[if_neg hT]at NH;refine wpIn_cond_false (h19.trans (congrArg Value.bool (decide_eq_false hT))) (wpIn_skip ?_);refine wpIn_seq (wpIn_mono (Rb (n7 F1 _ _ _ m d l[i] out l) 5 ms3) ?_);rintro e a4 W4 ⟨rfl,hc⟩;refine wpIn_seq (wpIn_seq (wpIn_mono hc ?_));rintro e a5 W5 ⟨rfl,ms5⟩;refine wpIn_block (wpIn_mono (XH 5 wf hy ms5) ?_);rintro e a6 W6 ⟨rfl,ms6⟩;have Uz:=(n12 F1 ((l.length:Nat):Int) (i:Int) (tell m (bp d l[i])) (bp d l[i]) d out l).trans (ae (fits (by omega)) rfl);refine wpIn_mono (FY Uz 5 ms6) ?_;rintro e a7 W7 ⟨rfl,ms7⟩;refine wpIn_mono (FY (n13 F1 _ _ _) 5 ms7) ?_;rintro e a8 W8 ⟨rfl,ms8⟩;have ew:=aB aG (by omega);rw[ew]at ms8;exact⟨l.length-(i+1),by omega,i+1,_,_,_,_,by omega,rfl,by simp;omega,ms8,NH,ht.tell _⟩
end Go.Vs
