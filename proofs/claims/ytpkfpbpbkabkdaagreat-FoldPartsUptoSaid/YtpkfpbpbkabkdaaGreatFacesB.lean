/- The walk of the function that -/
import Derived.Test.YtpkfpbpbkabkdaaGreatFacesA
set_option linter.unusedSimpArgs false
set_option linter.unusedVariables false
namespace Go.Vs
open Go.Proofs Go.Cy
variable {Z Z' Z0:Nat→Prop} {ψ ψ' ψ0 tW Ah:Nat→Value} {h h':Hp} {w w' w0:World} {B0:Nat} {O N:Nat→Prop}
theorem Jh{p:Nat→Prop}(h:∃n,p n):∃n,p n∧∀m,m<n→¬p m:=by
 obtain⟨n,hn⟩:=h
 induction n using Nat.strongRecOn with
 |_ n ih =>
  by_cases k:∃m,m<n∧p m
  ·obtain⟨m,h1,h2⟩:=k;exact ih m h1 h2
  ·exact⟨n,hn,fun m h1 h2=>k ⟨m,h1,h2⟩⟩
open Classical in
noncomputable def least(p:Nat→Prop):Nat:=if h:∃n,p n then Classical.choose (Jh h) else 0
theorem CO{p:Nat→Prop}(h:∃n,p n):p (least p)∧∀m,p m→least p≤m:=by unfold least;rw[dif_pos h];obtain⟨h1,h2⟩:=Classical.choose_spec (Jh h);exact⟨h1,fun m hm=>Classical.byContradiction fun k=>h2 m (by omega) hm⟩
theorem Gx{F:Fence}{n:Nat}{P:Program}{c:Code}{Q:Exit→Act→World→Prop}(I:Nat→Act→World→Prop){k:Nat}{a:Act}{w:World}(h0:I k a w) (round:∀k a w,I k a w→c.wpIn F n P (Exit.then (fun a' w'=>∃k',k'<k∧I k' a' w') Q) a w):(Code.loop c).wpIn F n P Q a w:=by
 refine wpIn_loop (fun a w=>∃k,I k a w) (fun a w=>least fun k=>I k a w) ⟨k,h0⟩ fun a w hI=>?_;obtain⟨h1,_⟩:=CO hI;refine wpIn_mono (round _ a w h1) fun e a' w' hq=>?_
 cases e with
 |normal=>obtain⟨k',h2,h3⟩:=hq;exact⟨⟨k',h3⟩,Nat.lt_of_le_of_lt ((CO ⟨k',h3⟩).2 k' h3) h2⟩
 |_=>exact hq
abbrev hU(x:ab)(d:ak):Heap:=(ar U0 ((),(((x,()),((d,()),())),()))).heap
abbrev hB(x:ab)(d:ak)(y:ab):Heap:=(ar U1 ((true,()),(((x,()),((d,()),((y,()),()))),()))).heap
def oY(m:Tm)(y:ab):Tm:=jn bL y true m
def tell(m:Tm)(l:List ab):Tm:=l.foldl oY m
theorem O5(m:Tm)(l:List ab)(y:ab):tell m (l++[y])=oY (tell m l) y:=by simp[tell]
structure Bt(W1:World)(Z1:Nat→Prop)(OA OB:Nat→Prop)(B0:Nat)(O:Nat→Prop)(l:Nat)(rc:Loop)(tm:Array Value)(m:Tm)(f:List ab)(x:ab)(d:ak)(y:ab)(Z:Nat→Prop)(tW Ah:Nat→Value)(a:Act)(W:World):Prop where
 gA:Good Z tW (hA m f).get W B0 O
 gB:Good Z Ah (hB x d y).get W B0 O
 ap:gY (Own Ah (hB x d y).get) Z (Own tW (hA m f).get) W
 s:Sl tm Z tW (hA m f).get W
 hl:W.heap[l]? = some (.loop rc)
 fl:gY (·=l) Z (fun b=>Own tW (hA m f).get b∨Own Ah (hB x d y).get b) W
 tr:Tr (·=l) Z1 (fun b=>OA b∨OB b) W1 Z (fun b=>Own tW (hA m f).get b∨Own Ah (hB x d y).get b) W
 a0:a.tmps.getD 0 undef=.func (.yield l) #[] #[]
 b0:B0≤W.heap.size
theorem Yw{W:World}{x y:ab}{d:ak}{v:Value}(g:Good Z Ah (hB x d y).get W B0 O)(hr:au Z Ah (hB x d y).get W (.ref 20004 0 0 0) v):∃V,(Instr.loadAt 33 v).run Tryz.prog W=.ok V W∧∀ψ h,au Z ψ h W (b5 bL y) V:=by have hb:(hB x d y).get 20004=some (.box 33 (enc bL y)):=rfl;obtain⟨q,vs,e1,e2,e3,e4⟩:=g.box _ _ _ hb;simp only[au]at hr;obtain⟨ad,rfl,h2⟩:=hr;have h3:=h2 (by rw[hb];simp);rw[e1]at h3;have h3:ad=⟨q,0,none⟩:=h3;subst h3;obtain⟨V,h4,h5⟩:=jT (P:=Tryz.prog) (t:=33) (a:=⟨q,0,none⟩) (x:=b5 bL y) e3 (fun j u hu=>by rw[cw,Nat.zero_add];simp only[World.cell?,e2];simpa using hu) (by kernel_rfl);exact⟨V,h4,fun ψ h=>h5.move (p:=fun _=>False) (fun _ h=>h) (cj.refl _ _) (fun _ k=>k.elim) (ov _ bL y)⟩
structure Itr(W1:World)(Z1:Nat→Prop)(OA OB:Nat→Prop)(B0:Nat)(O:Nat→Prop)(l:Nat)(rc:Loop)(tm:Array Value)(m:Tm)(f:List ab)(Z:Nat→Prop)(tW:Nat→Value)(W:World):Prop where
 gA:Good Z tW (hA m f).get W B0 O
 s:Sl tm Z tW (hA m f).get W
 hl:W.heap[l]? = some (.loop rc)
 tr:Tr (·=l) Z1 (fun b=>OA b∨OB b) W1 Z (Own tW (hA m f).get) W
theorem Vk(n:Nat){W1:World}{m:Tm}{f:List ab}{x:ab}{d:ak}{l D:Nat}{fn:FuncId}{tm:Array Value}{px pd:Value}(wf:Wf d)(hx:x∈aj d.1) (gA:Good Z tW (hA m f).get W1 B0 O) (gB:Good Z Ah (hU x d).get W1 B0 O) (ap:gY (Own Ah (hU x d).get) Z (Own tW (hA m f).get) W1) (hB0:B0≤W1.heap.size) (s:Sl tm Z tW (hA m f).get W1) (rx:au Z Ah (hU x d).get W1 (.ref 20002 0 0 0) px) (rd:au Z Ah (hU x d).get W1 (.ref 20003 0 0 0) pd) (hl:W1.heap[l]? = some (.loop (nV .ready fn tm D))) (fl:gY (·=l) Z (fun b=>Own tW (hA m f).get b∨Own Ah (hU x d).get b) W1) (hf:f.length+(bf d x).length≤eE) :
  CallsIn (FW none) n Tryz.prog 254 #[.func (.yield l) #[] #[],px,pd] W1 fun e W'=>(∃v,e=.returned v)∧∃Z' ψ',Itr W1 Z (Own tW (hA m f).get) (Own Ah (hU x d).get) B0 O l (nV .ready fn tm D) tm (tell m (bf d x)) (f++bf d x) Z' ψ' W':=by
 obtain⟨r0,htr,zQ,ba,hcy⟩:=CA wf hx;refine callsIn_of_wp Tryz.func254 Vi trivial ?_ rfl;obtain⟨Ai,Ji⟩:∃t:Array Value,t=#[.func (.yield l) #[] #[],px,pd]++Array.replicate (Tryz.f254.ntmps-(#[.func (.yield l) #[] #[],px,pd]:Array Value).size) undef:=⟨_,rfl⟩;rw[←Ji];have Yx:Ai.size=23:=by rw[Ji,Tryz.ntmps254];simp
 have e0:Ai.getD 0 undef=.func (.yield l) #[] #[]:=by rw[Ji];simp
 have e1:Ai.getD 1 undef=px:=by rw[Ji];simp
 have e2:Ai.getD 2 undef=pd:=by rw[Ji];simp
 have t0:cK Z Ah (hU x d).get W1 23 (look (ar U0 ((),(((x,()),((d,()),())),()))).tmps) { tmps:=Ai,defers:=[] }:=by
  refine eL (fun p hp=>?_) Yx rfl;have hp:p∈[(1,AV.ref 20002 0 0 0),(2,AV.ref 20003 0 0 0)]:=hp;simp only[List.mem_cons,List.not_mem_nil,or_false]at hp;rcases hp with rfl|rfl
  ·show au _ _ _ _ _ (Ai.getD 1 undef);rw[e1];exact rx
  ·show au _ _ _ _ _ (Ai.getD 2 undef);rw[e2];exact rd
 have zA:∀b,Z b→¬Own tW (hA m f).get b:=fun b hb=>(gA.zA b hb).2;have zl:∀b,Z b→¬b=l:=fun b hb e=>(fl l rfl).2.1 (e▸hb);refine wpIn_seq ?_;refine wpIn_mono (dK qh (u0 F1 x d) none n [] (Good.start gB) t0) ?_;rintro e a1 W2 ⟨rfl,a2,rfl,k1,iL,Z1,nW,Ys,Vj,t1⟩;obtain⟨Z2,dR,C6,t2⟩:=gq Ys Vj t1;have gB2:Good Z2 dR (hB x d x).get W2 B0 O:=C6.Lr gB hB0;have WW:Tr (fun _=>False) Z (Own Ah (hU x d).get) W1 Z2 (Own dR (hB x d x).get) W2:=C6.tr;have fA:gY (Own tW (hA m f).get) Z (Own Ah (hU x d).get) W1:=fun b hb=>⟨gA.bF hb,fun hz=>zA b hz hb,fun h2=>(ap b h2).2.2 hb⟩;have gA2:Good Z2 tW (hA m f).get W2 B0 O:=WW.part (fun b hb=>(gB.zA b hb).2) gA fA (fun _ _ h=>h) gB2.jO;obtain⟨fA2,_⟩:=WW.free fA fun _ _ h=>h;have ap2:gY (Own dR (hB x d x).get) Z2 (Own tW (hA m f).get) W2:=fun b hb=>⟨gB2.bF hb,fun hz=>(gB2.zA b hz).2 hb,fun h2=>(fA2 b h2).2.2 hb⟩;have sm2:cj Z W1 W2:=WW.same gB.zA fun _ _ h=>h;have s2:Sl tm Z2 tW (hA m f).get W2:=⟨s.n,s.t4.less C6.fN sm2 fun i hi=>⟨hi,rfl⟩,s.t7.less C6.fN sm2 fun i hi=>⟨hi,rfl⟩⟩;obtain⟨Pz,zm⟩:=(WW.beside (Own tW (hA m f).get)).free (X:=(·=l)) (fun b hb=>⟨(fl b hb).1,(fl b hb).2.1,fun h=>(fl b hb).2.2 h.symm⟩) fun _ _ h=>h;rw[dB];refine wpIn_block ?_;have start:Bt W1 Z (Own tW (hA m f).get) (Own Ah (hU x d).get) B0 O l (nV .ready fn tm D) tm m f x d x Z2 tW dR a2 W2 :=⟨gA2,gB2,ap2,s2,(zm l rfl).trans hl,fun b hb=>⟨(Pz b hb).1,(Pz b hb).2.1,fun h=>(Pz b hb).2.2 h.symm⟩,(WW.beside (Own tW (hA m f).get)).less (fun b h=>h.symm) (fun b h=>h.symm) (fun _ h=>h.elim),(k1 0 (by simp)).trans e0,acB hB0 WW.size⟩;refine Gx (fun k a W=>∃pre y rest Z' ahc acA b,bf d x=pre++y::rest∧k=rest.length∧Bt W1 Z (Own tW (hA m f).get) (Own Ah (hU x d).get) B0 O l (nV .ready fn tm D) tm (tell m pre) (f++pre) x d y Z' ahc acA a W ∧ cK Z' acA (hB x d y).get W 23 (look (ar U1 ((b,()),(((x,()),((d,()),((y,()),()))),()))).tmps) a) (k:=r0.length) ⟨[],x,r0,Z2,tW,dR,true,htr,rfl,by rw[List.append_nil];exact start,t2⟩ ?_;rintro k a W ⟨pre,y,rest,Z3,Qa,Bf,bb,mN,rfl,bt,t3⟩;have hy:y∈aj d.1:=ba y (by rw[←htr,mN];simp);have r4:au Z3 Bf (hB x d y).get W (.ref 20004 0 0 0) (a.tmps.getD 4 undef):=t3.rep 4;obtain⟨V,hV,rV⟩:=Yw bt.gB r4;have hlen:(f++pre).length+1≤eE:=by rw[mN]at hf;simp at hf ⊢;omega
 have rin:=Sw (n-1) bt.gA bt.b0 bt.s (rV Qa _) hlen bt.hl (fun b hb=>⟨(bt.fl b hb).1,(bt.fl b hb).2.1,fun h=>(bt.fl b hb).2.2 (.inl h)⟩);have C5:(Instr.yield l #[V]).run Tryz.prog W=.ok (.round l fn (tm.setIfInBounds 23 V) (r6 9) bd) W:=by have:=run_yield (P:=Tryz.prog) (args:=#[V]) bt.hl rfl;simpa[nV] using this
 refine wpIn_seq (wpIn_seq ?_);refine Sx n t3.size bt.a0 hV C5 (rin.mono ?_);rintro e W4 ⟨rfl,Z4,MJ,Jj⟩;refine⟨.bool true,rfl,?_⟩;obtain⟨b,hb⟩:∃b,b=((a.put (some 7) (.func (.yield l) #[] #[])).put (some 8) V).put (some 9) (.bool true):=⟨_,rfl⟩;rw[←hb];have other:∀i,i≠7→i≠8→i≠9→b.tmps.getD i undef=a.tmps.getD i undef:=fun i h7 h8 h9=>by rw[hb,bT _ _ (fun j hj=>by cases hj;exact h9),bT _ _ (fun j hj=>by cases hj;exact h8),bT _ _ (fun j hj=>by cases hj;exact h7)]
 have bsz:b.tmps.size=23:=by rw[hb,cp,cp,cp];exact t3.size
 have bdf:b.defers=[]:=by rw[hb,put_defers,put_defers,put_defers];exact t3.defers
 have b9:b.eval (.tmp 9)=.bool true:=by
  have:((a.put (some 7) (.func (.yield l) #[] #[])).put (some 8) V).tmps.size=23:=by rw[cp,cp];exact t3.size
  rw[hb];show(((a.put (some 7) (.func (.yield l) #[] #[])).put (some 8) V).put (some 9) (.bool true)).tmps.getD 9 undef=_;rw[ib (by omega),if_pos rfl]
 refine wpIn_cond_true b9 (wpIn_skip (wpIn_block (wpIn_seq ?_)));have z3l:∀q,Z3 q→¬q=l:=fun q hq e=>(bt.fl l rfl).2.1 (e▸hq);have bl:∀q,Own Bf (hB x d y).get q→¬q=l:=fun q hq e=>(bt.fl l rfl).2.2 (.inr (e▸hq));have gB4:Good Z4 Bf (hB x d y).get W4 B0 O:=Jj.tr.part (fun q hq=>(bt.gA.zA q hq).2) bt.gB bt.ap (fun q hq=>hq.elim (z3l q) (bl q)) Jj.g.jO;obtain⟨ap4,_⟩:=Jj.tr.free bt.ap bl;have sm4:cj Z3 W W4:=Jj.tr.same bt.gA.zA z3l;have t4:cK Z4 Bf (hB x d y).get W4 23 (look (ar U1 ((bb,()),(((x,()),((d,()),((y,()),()))),()))).tmps) b:=by
  have up:∀i v,i≠7→i≠8→i≠9→look (ar U1 ((bb,()),(((x,()),((d,()),((y,()),()))),()))).tmps i=v→au Z4 Bf (hB x d y).get W4 v (b.tmps.getD i undef):=fun i v h7 h8 h9 e=>by rw[other i h7 h8 h9,←e];exact(t3.rep i).less Jj.tr.fN sm4 fun j hj=>⟨hj,rfl⟩
  refine eL (fun p hp=>?_) bsz bdf;have hp:p∈[(5,AV.bool bb),(1,AV.ref 20002 0 0 0),(2,AV.ref 20003 0 0 0),(4,AV.ref 20004 0 0 0)]:=hp;simp only[List.mem_cons,List.not_mem_nil,or_false]at hp;rcases hp with rfl|rfl|rfl|rfl
  ·exact up 5 _ (by decide) (by decide) (by decide) rfl
  ·exact up 1 _ (by decide) (by decide) (by decide) rfl
  ·exact up 2 _ (by decide) (by decide) (by decide) rfl
  ·exact up 4 _ (by decide) (by decide) (by decide) rfl
 have hB4:B0≤W4.heap.size:=acB bt.b0 Jj.tr.size;have ahd:F1 255 Ey ((d,((y.1,y.2),())),())=some ((ph d y,(true,())),()):=by have:=Ss rfl (acj hg0 d y wf);rw[IZ wf hy]at this;exact this
 have hn:=(u2 F1 bb x y d).trans (aa ahd rfl);have run:=dK qh hn none n [] (Good.start gB4) t4;rw[dB]at run;refine wpIn_mono run ?_;clear run;rintro e a5 W5 ⟨rfl,a6,rfl,k6,st6,Z6,ψ6,Yu,ok6,t6⟩;refine wpIn_seq ?_;refine wpIn_mono (dK qh Yu none n [] ok6 t6) ?_;rintro e a7 W7 ⟨rfl,a8,rfl,k8,st8,Z8,ψ8,ahe,ok8,t8⟩;obtain⟨Z9,ψ9,ok9,t9⟩:=gq ahe ok8 t8;rw[dB];have gB9:Good Z9 ψ9 (hB x d (ph d y)).get W7 B0 O:=ok9.Lr gB4 hB4;have Zq:Tr (fun _=>False) Z4 (Own Bf (hB x d y).get) W4 Z9 (Own ψ9 (hB x d (ph d y)).get) W7:=ok9.tr;have fA4:gY (Own MJ (hA (oY (tell m pre) y) (f++pre++[y])).get) Z4 (Own Bf (hB x d y).get) W4:=fun q hq=>⟨Jj.g.bF hq,fun hz=>(Jj.g.zA q hz).2 hq,fun h2=>(ap4 q h2).2.2 hq⟩;have gA9:Good Z9 MJ (hA (oY (tell m pre) y) (f++pre++[y])).get W7 B0 O:=Zq.part (fun q hq=>(gB4.zA q hq).2) Jj.g fA4 (fun _ _ h=>h) gB9.jO;obtain⟨fA9,_⟩:=Zq.free fA4 fun _ _ h=>h;have ap9:gY (Own ψ9 (hB x d (ph d y)).get) Z9 (Own MJ (hA (oY (tell m pre) y) (f++pre++[y])).get) W7:=fun q hq=>⟨gB9.bF hq,fun hz=>(gB9.zA q hz).2 hq,fun h2=>(fA9 q h2).2.2 hq⟩;have sm9:cj Z4 W4 W7:=Zq.same gB4.zA fun _ _ h=>h;have s9:Sl tm Z9 MJ (hA (oY (tell m pre) y) (f++pre++[y])).get W7:=⟨Jj.s.n,Jj.s.t4.less ok9.fN sm9 fun i hi=>⟨hi,rfl⟩,Jj.s.t7.less ok9.fN sm9 fun i hi=>⟨hi,rfl⟩⟩;have trB:Tr (·=l) Z1 (fun q=>Own tW (hA m f).get q∨Own Ah (hU x d).get q) W1 Z1 (fun q=>Own tW (hA m f).get q∨Own Ah (hU x d).get q) W1:=Tr.refl;have tr4:Tr (·=l) Z (fun q=>Own tW (hA m f).get q∨Own Ah (hU x d).get q) W1 Z9 (fun q=>Own MJ (hA (oY (tell m pre) y) (f++pre++[y])).get q∨Own ψ9 (hB x d (ph d y)).get q) W7 :=(bt.tr.trans (Jj.tr.beside _)).trans ((Zq.beside (Own MJ (hA (oY (tell m pre) y) (f++pre++[y])).get)).less (fun q h=>h.symm) (fun q h=>h.symm) (fun _ h=>h.elim));have fl4:gY (·=l) Z4 (fun q=>Own MJ (hA (oY (tell m pre) y) (f++pre++[y])).get q∨Own Bf (hB x d y).get q) W4:=fun q hq=>by
  have hq:q=l:=hq;subst hq;have h0:=bt.fl q rfl;refine⟨adL h0.1 Jj.tr.size,fun hz=>?_,fun ho=>?_⟩
  ·rcases Jj.tr.eC q hz with e|e|e
   ·exact h0.2.1 e
   ·exact h0.2.2 (.inl e)
   ·have:=h0.1;omega
  ·rcases ho with ho|ho
   ·rcases Jj.tr.own q ho with e|e
    ·exact h0.2.2 (.inl e)
    ·have:=h0.1;omega
   ·exact h0.2.2 (.inr ho)
 obtain⟨fl9,hl9⟩:=(Zq.beside (Own MJ (hA (oY (tell m pre) y) (f++pre++[y])).get)).free (X:=(·=l)) (fun q hq=>⟨(fl4 q hq).1,(fl4 q hq).2.1,fun h=>(fl4 q hq).2.2 h.symm⟩) fun _ _ h=>h;have a8z:a8.tmps.getD 0 undef=.func (.yield l) #[] #[]:=(k8 0 (by simp)).trans ((k6 0 (by simp)).trans ((other 0 (by decide) (by decide) (by decide)).trans bt.a0));have acE:W7.heap[l]? = some (.loop (nV .ready fn tm D)):=(hl9 l rfl).trans Jj.l;have Yy:a8.eval (.tmp 22)=.bool (((((ph d y).1.1==x.1.1)&&((ph d y).1.2==x.1.2))&&((ph d y).2==x.2))):=t9.rep 22;have acF:oY (tell m pre) y=tell m (pre++[y]):=(O5 m pre y).symm;have ahi:f++pre++[y]=f++(pre++[y]):=List.append_assoc _ _ _;rw[acF,ahi]at gA9 ap9 s9 tr4 fl9;have hp:Path (ph d) (pre++y::rest) x:=by rw[←mN,htr];exact hcy
 have hpy:ph d y=rest.head?.getD x:=(Path.app.1 hp).2.1;rw[Dq]at Yy
 cases rest with
 |nil =>
  have e:ph d y=x:=hpy;refine wpIn_cond_true (Yy.trans (congrArg Value.bool (decide_eq_true e))) (wpIn_ret ?_);have zp:(results Tryz.f254 a8.tmps).run Tryz.prog W7=.ok (.tuple #[]) W7:=by
   have hr:Tryz.f254.results=#[]:=by kernel_rfl
   exact results_none hr _ _ _
  refine⟨t9.defers,_,zp,⟨_,rfl⟩,Z9,MJ,?_⟩;rw[mN];exact⟨gA9,s9,acE,tr4.less (fun _ h=>h) (fun q h=>.inl h) fun _ h=>h⟩
 |cons y' r =>
  have e:ph d y=y':=hpy;have aW:ph d y≠x:=fun k=>by
   rw[htr]at mN;have Yz:=zQ;rw[mN]at Yz;have h1:x∈pre++[y]:=by
    cases pre with
    |nil=>simp at mN;simp[mN.1]
    |cons q t=>simp at mN;simp[mN.1]
   rw[show pre++y::y'::r=(pre++[y])++y'::r by simp]at Yz;exact(adK.1 Yz).2.2 x h1 y' abZ (k.symm.trans e)
  refine wpIn_cond_false (Yy.trans (congrArg Value.bool (decide_eq_false aW))) (wpIn_skip ?_);rw[e]at gB9 ap9 tr4 fl9 t9;refine⟨r.length,by simp,pre++[y],y',r,Z9,MJ,ψ9,true,by rw[mN];simp,rfl,⟨gA9,gB9,ap9,s9,acE,fun q hq=>⟨(fl9 q hq).1,(fl9 q hq).2.1,fun h=>(fl9 q hq).2.2 h.symm⟩,tr4,a8z,acB hB4 Zq.size⟩,?_⟩;refine eL (fun p hp=>?_) t9.size t9.defers;have hp:p∈[(5,AV.bool true),(1,AV.ref 20002 0 0 0),(2,AV.ref 20003 0 0 0),(4,AV.ref 20004 0 0 0)]:=hp;simp only[List.mem_cons,List.not_mem_nil,or_false]at hp;rcases hp with rfl|rfl|rfl|rfl
  ·exact t9.rep 5
  ·exact t9.rep 1
  ·exact t9.rep 2
  ·exact t9.rep 4
end Go.Vs
namespace Go.Vs
open Go.Proofs Go.Cy
variable {Z Z' Z0:Nat→Prop} {ψ ψ' ψ0 tW Ah:Nat→Value} {h h':Hp} {w w' w0:World} {B0:Nat} {O N:Nat→Prop}
abbrev C7:Nat→Prop:=fun _=>False
def TS(D:Nat):Deferred:={ target:=.collected D,args:=#[] }
structure MsX(Z0:Nat→Prop)(w0:World)(Ds:List Nat)(sh:Shape)(x:sh.T)(a:Act)(W:World)(a0:Act)(Z:Nat→Prop)(ψ:Nat→Value):Prop where
 e:a=lp (Ds.map TS) a0
 wk:Wk Z0 w0 C7 Z W
 g:Good Z ψ (ar sh x).heap.get W w0.heap.size C7
 t:cK Z ψ (ar sh x).heap.get W 36 (look (ar sh x).tmps) a0
 nd:Ds.Nodup
 m:∀D,D∈Ds→W.heap[D]? = some (.deferred (some []))∧w0.heap.size≤D
 fr:gY (·∈Ds) Z (Own ψ (ar sh x).heap.get) W
def Ms(Z0:Nat→Prop)(w0:World)(Ds:List Nat)(sh:Shape)(x:sh.T)(a:Act)(W:World):Prop:=∃a0 Z ψ,MsX Z0 w0 Ds sh x a W a0 Z ψ
variable {Ds:List Nat} {sh sh':Shape} {x:sh.T} {x':sh'.T} {a:Act} {W:World}
theorem Gy{c:Code}{R:Type}{kk:St→Option R}{y:R}(hx:rn F1 36 [] c (ar sh x) kk=some y)(n:Nat){a0:Act}(s:MsX Z0 w0 Ds sh x a W a0 Z ψ) :
  c.wpIn (FW none) n Tryz.prog (Aft 36 [] (fun d=>a0.tmps.getD d undef) (Ds.map TS) kk y Z W (Own ψ (ar sh x).heap.get) ψ) a W:=by
 rw[s.e];exact dK qh hx none n _ (Good.start s.g) s.t
theorem Lu{st:St}{a1:Act}{W':World}(s:MsX Z0 w0 Ds sh x a W a1 Z ψ)(u6:cz sh' st=some x'){ψ':Nat→Value}{Z':Nat→Prop}{a2:Act}(ok:Ok Z W (Own ψ (ar sh x).heap.get) ψ Z' ψ' st.heap.get W')(t:cK Z' ψ' st.heap.get W' 36 (look st.tmps) a2):Ms Z0 w0 Ds sh' x' (lp (Ds.map TS) a2) W':=by obtain⟨Z2,dR,C6,t2⟩:=gq u6 ok t;obtain⟨f1,f2⟩:=(C6.tr (L:=C7)).free s.fr fun _ _ h=>h;exact⟨a2,Z2,dR,rfl,s.wk.step (C6.tr (L:=C7)) s.g.from (fun _ h=>h.elim),C6.Lr s.g s.wk.size,t2,s.nd,fun D hD=>⟨(f2 D hD).trans (s.m D hD).1,(s.m D hD).2⟩,f1⟩
theorem CP{c:Code}(hx:rn F1 36 [] c (ar sh x) (cz sh')=some x')(n:Nat)(s:Ms Z0 w0 Ds sh x a W):c.wpIn (FW none) n Tryz.prog (fun e a' W'=>e=.normal∧Ms Z0 w0 Ds sh' x' a' W') a W:=by obtain⟨a0,Z,ψ,s⟩:=s;refine wpIn_mono (Gy hx n s) ?_;rintro e a1 W1 ⟨rfl,a2,rfl,_,st,Z1,nW,u6,ok,t⟩;exact⟨rfl,Lu s u6 ok t⟩
theorem MK{c c':Code}(hx:(rn F1 36 [] c (ar sh x) fun st=>rn F1 36 [] c' st (cz sh'))=some x')(n:Nat)(s:Ms Z0 w0 Ds sh x a W) :
  c.wpIn (FW none) n Tryz.prog (fun e a' W'=>e=.normal∧c'.wpIn (FW none) n Tryz.prog (fun e a' W'=>e=.normal∧Ms Z0 w0 Ds sh' x' a' W') a' W') a W:=by
 obtain⟨a0,Z,ψ,s⟩:=s;refine wpIn_mono (Gy hx n s) ?_;rintro e a1 W1 ⟨rfl,a2,rfl,_,st,Z1,nW,u6,ok,t⟩;refine⟨rfl,wpIn_mono (dK qh u6 none n _ ok t) ?_⟩;rintro e a3 W3 ⟨rfl,a4,rfl,_,st3,Z3,Qa,YA,Vl,t3⟩;exact⟨rfl,Lu s YA Vl t3⟩
abbrev hC(d:ak)(out:List (List ab))(l:List ab):Heap:=[(20004,.box 41 (enc kZ d))]++q8 rws ((out,(l,())):JV (rws.map (·.2.2)))
theorem Aj{i:Nat}{v:Value}(hr:au Z ψ h w (.bC i) v)(hi:h' i≠none→h i≠none∧ψ' i=ψ i):au Z' ψ' h' w' (.bC i) v:=by simp only[au]at hr ⊢;exact⟨hr.1,fun k=>by obtain⟨k1,k2⟩:=hi k;rw[k2];exact hr.2 k1⟩
theorem CQ{m:Tm}{f:List ab}{i:Nat}(h:(hA m f).get i≠none):i=20000∨i=9000∨i=20001∨i=9016:=by
 have e:hA m f=[(20000,.box 224 [.bC 9000]),(9000,.own (.map bL .bool) m),(20001,.box 50 [.bC 9016]),(9016,.own (.row 33 bL) f)]:=rfl;rw[e]at h;simp only[Heap.get]at h;by_cases h1:20000=i
 ·exact .inl h1.symm
 by_cases h2:9000=i
 ·exact .inr (.inl h2.symm)
 by_cases h3:20001=i
 ·exact .inr (.inr (.inl h3.symm))
 by_cases h4:9016=i
 ·exact .inr (.inr (.inr h4.symm))
 rw[if_neg h1,if_neg h2,if_neg h3,if_neg h4]at h;exact absurd rfl h
theorem Gz{x:ab}{d:ak}{i:Nat}(h:(hU x d).get i≠none):i=20002∨i=20003:=by
 have e:hU x d=[(20002,.box 33 (enc bL x)),(20003,.box 41 (enc kZ d))]:=rfl;rw[e]at h;simp only[Heap.get]at h;by_cases h1:20002=i
 ·exact .inl h1.symm
 by_cases h2:20003=i
 ·exact .inr h2.symm
 rw[if_neg h1,if_neg h2]at h;exact absurd rfl h
theorem CR{d:ak}{out:List (List ab)}{l:List ab}{i:Nat}(h:(hC d out l).get i≠none):i=20004∨i=31000∨i=31001:=by
 have e:hC d out l=[(20004,.box 41 (enc kZ d)),(31000,.own (.row 50 (.sl bL)) out),(31001,.own (.row 33 bL) l)]:=rfl;rw[e]at h;simp only[Heap.get]at h;by_cases h1:20004=i
 ·exact .inl h1.symm
 by_cases h2:31000=i
 ·exact .inr (.inl h2.symm)
 by_cases h3:31001=i
 ·exact .inr (.inr h3.symm)
 rw[if_neg h1,if_neg h2,if_neg h3]at h;exact absurd rfl h
theorem xV{a b:Heap}{i:Nat}{o:Ob}(h:a.get i=some o):(a++b).get i=some o:=by rw[Heap.get_append,h]
theorem td{a b:Heap}{i:Nat}(h:a.get i=none):(a++b).get i=b.get i:=by rw[Heap.get_append,h]
theorem GA{h:Hp}{i:Nat}(k:h i≠none→False):h i=none:=by
 cases e:h i with
 |none=>rfl
 |some _=>exact(k (by rw[e];simp)).elim
theorem CS{a b c:Heap}(g:Good Z ψ c.get w B0 O)(sa:∀i o,a.get i=some o→c.get i=some o)(sb:∀i o,b.get i=some o→c.get i=some o)(dis:∀i,a.get i≠none→b.get i≠none→False):gY (Own ψ b.get) Z (Own ψ a.get) w:=by
 have up:∀{e:Heap} (se:∀i o,e.get i=some o→c.get i=some o) {i},e.get i≠none→c.get i≠none:=fun {e} se {i} hi=>by obtain⟨o,ho⟩:=acf.1 hi;rw[se i o ho];simp
 rintro q ⟨i,h1,h2⟩;refine⟨g.bF ⟨i,up sb h1,h2⟩,(g.live i q (up sb h1) h2).1,?_⟩;rintro⟨j,h3,h4⟩;have e:=g.apart i j q (up sb h1) (up sa h3) h2 h4;subst e;exact dis i h3 h1
end Go.Vs
namespace Go.Vs
open Go.Proofs Go.Cy
variable {Z Z' Z0:Nat→Prop} {ψ ψ' ψ0 tW Ah:Nat→Value} {h h':Hp} {w w' w0:World} {B0:Nat} {O N:Nat→Prop}
variable {Ds:List Nat} {a:Act} {W:World}
abbrev x3(n i:Int)(m:Tm)(f:List ab)(x:ab)(d:ak)(out:List (List ab))(l:List ab):S3.T:=((n,(i,())),(((m,()),((f,()),((x,()),((d,()),((d,()),()))))),(out,(l,()))))
abbrev x12(n i:Int)(m:Tm)(f:List ab)(d:ak)(out:List (List ab))(l:List ab):S12.T:=((n,(i,())),(((m,()),((f,()),((d,()),()))),(out,(l,()))))
set_option maxRecDepth 20000 in
theorem Sy(k:Nat){n i:Int}{m:Tm}{x:ab}{d:ak}{out:List (List ab)}{l:List ab}(wf:Wf d)(hx:x∈aj d.1)(s:Ms Z0 w0 Ds S3 (x3 n i m [] x d out l) a W) :
  cRF.wpIn (FW none) k Tryz.prog (fun e a' W'=>e=.normal∧Ms Z0 w0 (W.heap.size::Ds) S12 (x12 n i (tell m (bf d x)) (bf d x) d out l) a' W') a W:=by
 obtain⟨a0,Z,ψ,s⟩:=s;have hH:(ar S3 (x3 n i m [] x d out l)).heap=hA m []++(hU x d++hC d out l):=rfl;have hg:=s.g;have Bq:=s.fr;have ht:=s.t;rw[hH]at hg Bq ht;have sA:∀j o,(hA m []).get j=some o→(hA m []++(hU x d++hC d out l)).get j=some o:=fun j o e=>xV e;have nA:∀{j},j=20002∨j=20003∨j=20004∨j=31000∨j=31001→∀m f,(hA m f).get j=none:=fun {j} hj m f=>GA fun e=>by have:=CQ e;omega
 have nU:∀{j},j=20004∨j=31000∨j=31001→(hU x d).get j=none:=fun {j} hj=>GA fun e=>by have:=Gz e;omega
 have sU:∀j o,(hU x d).get j=some o→(hA m []++(hU x d++hC d out l)).get j=some o:=fun j o e=>by have:=Gz (show(hU x d).get j≠none by rw[e];simp);rw[td (nA (by omega) m []),xV e]
 have sC:∀j o,(hC d out l).get j=some o→(hA m []++(hU x d++hC d out l)).get j=some o:=fun j o e=>by have:=CR (show(hC d out l).get j≠none by rw[e];simp);rw[td (nA (by omega) m []),td (nU (by omega)),e]
 have gA:=hg.sub sA;have gU:=hg.sub sU;have gC:=hg.sub sC;have fUA:gY (Own ψ (hU x d).get) Z (Own ψ (hA m []).get) W:=CS hg sA sU fun j h1 h2=>by have:=CQ h1;have:=Gz h2;omega
 have fCA:gY (Own ψ (hC d out l).get) Z (Own ψ (hA m []).get) W:=CS hg sA sC fun j h1 h2=>by have:=CQ h1;have:=CR h2;omega
 have fCU:gY (Own ψ (hC d out l).get) Z (Own ψ (hU x d).get) W:=CS hg sU sC fun j h1 h2=>by have:=Gz h1;have:=CR h2;omega
 have Yy:=ht.rep 22;have e22:look (ar S3 (x3 n i m [] x d out l)).tmps 22=.fn 254 [.ref 20002 0 0 0,.ref 20003 0 0 0]:=rfl;rw[e22]at Yy;simp only[au,an]at Yy;obtain⟨ws,hv,px,_,Qc,rx,pd,_,rfl,rd,rfl⟩:=Yy;have Qc:ws=#[px,pd]:=Array.ext' Qc;subst Qc;have less:∀{hp:Heap} {v:AV} {u:Value},(∀j o,hp.get j=some o→(hA m []++(hU x d++hC d out l)).get j=some o)→au Z ψ (hA m []++(hU x d++hC d out l)).get W v u→au Z ψ hp.get W v u:=fun {hp v u} hs hr=>hr.nM hs;have rx:au Z ψ (hU x d).get W (.ref 20002 0 0 0) px:=less sU (by simp only[au];exact rx);have rd:au Z ψ (hU x d).get W (.ref 20003 0 0 0) pd:=less sU (by simp only[au];exact rd);have sl:Sl a0.tmps Z ψ (hA m []).get W:=⟨ht.size,less sA (ht.rep 4),less sA (ht.rep 7)⟩;rw[s.e];refine wpIn_rangeFunc ?_;intro fn _;obtain⟨D,hD⟩:∃D,D=W.heap.size:=⟨_,rfl⟩;obtain⟨W1,B7⟩:∃W1,W1=(W.alloc (.deferred (some []))).alloc (.loop (nV .ready fn a0.tmps D)):=⟨_,rfl⟩;have gE:W1.heap.size=D+2:=by rw[B7,hD];simp
 have cQ:∀b,b<W.heap.size→W1.heap[b]? = W.heap[b]? := fun b hb=>by rw[B7,heap_alloc_old _ _ (by rw[World.size_alloc];omega),heap_alloc_old _ _ hb]
 have hL1:W1.heap[D+1]? = some (.loop (nV .ready fn a0.tmps D)):=by have:=World.alloc_heap_new (W.alloc (.deferred (some []))) (.loop (nV .ready fn a0.tmps D));rw[World.size_alloc,←B7,←hD]at this;exact this
 have hD1:W1.heap[D]? = some (.deferred (some [])):=by rw[B7,hD,heap_alloc_old _ _ (by rw[World.size_alloc];omega)];exact World.alloc_heap_new W _
 have lift:∀{hp:Heap} {ψ:Nat→Value},Good Z ψ hp.get W w0.heap.size C7→Good Z ψ hp.get W1 w0.heap.size C7:=fun {hp ψ} g=>g.same (fun _ h=>h) (fun b hb=>cQ b (hb.elim (g.jO b) g.bF)) (fun b hb hz=>(g.zA b hz).2 hb) fun b hb=>by have:=g.jO b hb;omega
 have YB:cj Z W W1:=fun b hb=>cQ b (hg.jO b hb);have gA1:=lift gA;have gU1:=lift gU;have gC1:=lift gC;have up:∀{X A:Nat→Prop},gY X Z A W→gY X Z A W1:=fun {X A} f b hb=>⟨by have:=(f b hb).1;omega,(f b hb).2⟩;have sl1:Sl a0.tmps Z ψ (hA m []).get W1:=⟨sl.n,sl.t4.less (fun _ h=>h) YB fun j hj=>⟨hj,rfl⟩,sl.t7.less (fun _ h=>h) YB fun j hj=>⟨hj,rfl⟩⟩;have fresh:∀{hp:Heap} {b:Nat},Good Z ψ hp.get W w0.heap.size C7→W.heap.size≤b→¬Z b∧¬Own ψ hp.get b:=fun {hp b} g hb=>⟨fun hz=>by have:=g.jO b hz;omega,fun ho=>by have:=g.bF ho;omega⟩;have fl0:∀b,D≤b→b<D+2→b<W1.heap.size∧¬Z b∧¬(Own ψ (hA m []).get b∨Own ψ (hU x d).get b):=fun b h1 h2 =>⟨by omega,(fresh gA (by omega)).1,fun h=>h.elim (fresh gA (by omega)).2 (fresh gU (by omega)).2⟩;have fl1:gY (·=D+1) Z (fun b=>Own ψ (hA m []).get b∨Own ψ (hU x d).get b) W1:=fun b hb=>fl0 b (by omega) (by omega);have hlen:([]:List ab).length+(bf d x).length≤eE:=by have:=Oq d x;unfold eE;simp;omega
 have it:=Vk (k-1) wf hx gA1 gU1 (up fUA) (by rw[gE,hD];have:=s.wk.size;omega) sl1 (rx.less (fun _ h=>h) YB fun j hj=>⟨hj,rfl⟩) (rd.less (fun _ h=>h) YB fun j hj=>⟨hj,rfl⟩) hL1 fl1 hlen;refine⟨D+1,[TS D],W1,{ target:=.fn (.func 254) #[px,pd],args:=#[.func (.yield (D+1)) #[] #[]] },W1,254,#[.func (.yield (D+1)) #[] #[],px,pd],W1,?_,?_,fun _ _=>trivial,?_,fun h=>(by cases h),?_⟩
 ·rw[B7,hD];exact run_enterLoop_outer _ _ _ _ _
 ·rw[uN];have zn:a0.eval (.tmp 22)=.func (.func 254) #[] #[px,pd]:=hv;simp only[Go.resolve,zn];simp[go_sem]
 ·show(callFunc 254 (#[.func (.yield (D+1)) #[] #[]]++#[px,pd])).run _ _=_;have hc:KN [(254,O4)]=true:=by kernel_rfl
  exact jw (Ac hc (g:=O4) (f:=254) (by simp)) _
 refine it.mono ?_;rintro e W2 ⟨⟨v,rfl⟩,Z2,dR,O6⟩;refine⟨none,_,run_endLoop O6.hl (by simp[nV]),rfl,?_⟩;have tA:∀{X},gY X Z (fun b=>Own ψ (hA m []).get b∨Own ψ (hU x d).get b) W1→gY X Z2 (Own dR (hA (tell m (bf d x)) ([]++bf d x)).get) W2:=fun {X} f=>O6.tr.Jf f;rw[List.nil_append]at O6;have fC1:gY (Own ψ (hC d out l).get) Z (fun b=>Own ψ (hA m []).get b∨Own ψ (hU x d).get b) W1:=fun b hb=>⟨(up fCA b hb).1,(up fCA b hb).2.1,fun h=>h.elim (fCA b hb).2.2 (fCU b hb).2.2⟩;have cD:∀b,Own ψ (hC d out l).get b→b<D:=fun b hb=>by rw[hD];exact gC.bF hb
 have zD:∀b,Z b→b<D:=fun b hb=>by rw[hD];exact hg.jO b hb
 have gA2:=O6.gA;have gC2:Good Z2 ψ (hC d out l).get W2 w0.heap.size C7:=O6.tr.part (fun b hb h=>h.elim (gA.zA b hb).2 (gU.zA b hb).2) gC1 fC1 (fun b hb e=>by rcases hb with hb|hb;have:=zD b hb;omega;have:=cD b hb;omega) gA2.jO;have apC:gY (Own ψ (hC d out l).get) Z2 (Own dR (hA (tell m (bf d x)) (bf d x)).get) W2:=O6.tr.Jf fC1;have Pz:gY (·=D+1) Z2 (Own dR (hA (tell m (bf d x)) (bf d x)).get) W2:=O6.tr.Jf fl1;have flC:gY (·=D+1) Z2 (Own ψ (hC d out l).get) W2:=fun b hb=>⟨(Pz b hb).1,(Pz b hb).2.1,fun h=>by have:=cD b h;have hb:b=D+1:=hb;omega⟩;have gA3:=gA2.putObj (o':=.loop { nV .ready fn a0.tmps D with state:=.exhausted }) Pz;have gC3:=gC2.putObj (o':=.loop { nV .ready fn a0.tmps D with state:=.exhausted }) flC;obtain⟨W3,WX⟩:∃W3,W3=W2.putObj (D+1) (.loop { nV .ready fn a0.tmps D with state:=.exhausted }):=⟨_,rfl⟩;rw[←WX]at gA3 gC3 ⊢;have sm3:cj Z2 W2 W3:=by rw[WX];exact nC Pz
 have acG:W3.heap.size=W2.heap.size:=by rw[WX];simp
 have dis:∀j,(hA (tell m (bf d x)) (bf d x)).get j≠none→(hC d out l).get j=none:=fun j hj=>GA fun e=>by have:=CQ hj;have:=CR e;omega
 have apJ:∀q,Own dR (hA (tell m (bf d x)) (bf d x)).get q→¬Own ψ (hC d out l).get q:=fun q h1 h2=>(apC q h2).2.2 h1;have gJ:=gA3.join gC3 dis apJ (fun j ty cs hj=>by
  have e:=CQ (show(hA (tell m (bf d x)) (bf d x)).get j≠none by rw[hj];simp);rcases e with rfl|rfl|rfl|rfl
  ·cases hj
   show av _ [.bC 9000];simp only[av,aD];exact⟨fun k=>(by cases k),trivial⟩
  ·cases hj
  ·cases hj
   show av _ [.bC 9016];simp only[av,aD];exact⟨fun k=>(by cases k),trivial⟩
  ·cases hj) (fun j ty cs hj=>by
  have e:=CR (show(hC d out l).get j≠none by rw[hj];simp);rcases e with rfl|rfl|rfl
  ·cases hj;exact rO d _
  ·cases hj
  ·cases hj)
 have ahn:∀b,Own (qg (hA (tell m (bf d x)) (bf d x)).get dR ψ) (hA (tell m (bf d x)) (bf d x)++hC d out l).get b→Own dR (hA (tell m (bf d x)) (bf d x)).get b∨Own ψ (hC d out l).get b:=fun b ⟨j,h1,h2⟩=>by
  by_cases e:(hA (tell m (bf d x)) (bf d x)).get j=none
  ·rw[td e]at h1;rw[oW e]at h2;exact .inr ⟨j,h1,h2⟩
  ·rw[oV e]at h2;exact .inl ⟨j,e,h2⟩
 refine⟨a0,Z2,qg (hA (tell m (bf d x)) (bf d x)).get dR ψ,?_,?_,?_,?_,?_,?_,?_⟩
 ·show({ lp (Ds.map TS) a0 with defers:=[TS D]++(lp (Ds.map TS) a0).defers }:Act)=lp ((W.heap.size::Ds).map TS) a0;unfold lp;rw[ht.defers,←hD];rfl
 ·have o1:∀q,(Own ψ (hA m []).get q∨Own ψ (hU x d).get q)→w0.heap.size≤q∨C7 q:=fun q h=>h.elim (gA.from q) (gU.from q);have w1:Wk Z0 w0 C7 Z W1:=s.wk.step (A:=fun q=>Own ψ (hA m []).get q∨Own ψ (hU x d).get q) (B:=fun q=>Own ψ (hA m []).get q∨Own ψ (hU x d).get q) (L:=C7) (Tr.cq (by rw[B7];rfl) (by rw[B7];rfl) (by rw[B7];rfl) (by rw[gE,hD];omega) fun b hb _=>cQ b hb) o1 fun _ h=>h.elim;have hDl:∀b,b=D+1→w0.heap.size≤b:=fun b hb=>by have:=s.wk.size;omega
  have w2:=w1.step O6.tr o1 hDl;rw[WX];exact w2.step xU gA2.from hDl
 ·exact gJ
 ·have q1:∀{j},(j=20000∨j=20001)→(hA (tell m (bf d x)) (bf d x)).get j≠none:=fun {j} hj=>by rcases hj with rfl|rfl<;>(intro k;cases k)
  have rA:∀{j u},(j=20000∨j=20001)→au Z2 dR (hA (tell m (bf d x)) (bf d x)).get W2 (.ref j 0 0 0) u→au Z2 (qg (hA (tell m (bf d x)) (bf d x)).get dR ψ) (hA (tell m (bf d x)) (bf d x)++hC d out l).get W3 (.ref j 0 0 0) u:=fun {j u} hj hr =>Gu (fun _ h=>h) hr fun _=>⟨q1 hj,oV (q1 hj)⟩;have cN:∀{j},(j=20004∨j=31000∨j=31001)→(hA m []++(hU x d++hC d out l)).get j≠none∧qg (hA (tell m (bf d x)) (bf d x)).get dR ψ j=ψ j:=fun {j} hj=>by
   have e1:(hC d out l).get j≠none:=by rcases hj with rfl|rfl|rfl<;>(intro k;cases k)
   obtain⟨o,ho⟩:=acf.1 e1;exact⟨by rw[sC _ _ ho];simp,oW (nA (by omega) _ _)⟩
  refine eL (fun p hp=>?_) ht.size ht.defers;have hp:p∈[(12,AV.int .i64 n),(13,AV.int .i64 i),(4,AV.ref 20000 0 0 0),(7,AV.ref 20001 0 0 0),(1,AV.ref 20004 0 0 0),(3,AV.bC 31000),(11,AV.bC 31001)]:=hp;simp only[List.mem_cons,List.not_mem_nil,or_false]at hp;rcases hp with rfl|rfl|rfl|rfl|rfl|rfl|rfl
  ·exact ht.rep 12
  ·exact ht.rep 13
  ·exact rA (.inl rfl) O6.s.t4
  ·exact rA (.inr rfl) O6.s.t7
  ·exact Gu (fun b hb=>O6.tr.fN b hb) (ht.rep 1) fun _=>cN (.inl rfl)
  ·exact Aj (ht.rep 3) fun _=>cN (.inr (.inl rfl))
  ·exact Aj (ht.rep 11) fun _=>cN (.inr (.inr rfl))
 ·refine ab6.2 ⟨fun hm=>?_,s.nd⟩;have:=(Bq _ hm).1;omega
 ·have keep:∀b,b<D+1→b<W1.heap.size→¬(Own ψ (hA m []).get b∨Own ψ (hU x d).get b)→W3.heap[b]? = W1.heap[b]? := fun b h1 h2 h3=>by rw[WX,World.putObj_heap_other (by omega)];exact O6.tr.block b h2 h3 (by omega)
  intro q hq;rcases abw.1 hq with rfl|hq
  ·refine⟨?_,s.wk.size⟩;rw[←hD];exact(keep D (by omega) (by omega) (fl0 D (by omega) (by omega)).2.2).trans hD1
  ·have h0:=Bq q hq;refine⟨?_,(s.m q hq).2⟩;have own:∀{hp:Heap},(∀j o,hp.get j=some o→(hA m []++(hU x d++hC d out l)).get j=some o)→¬Own ψ hp.get q:=fun {hp} hs ⟨j,h1,h2⟩=>h0.2.2 ⟨j,(by obtain⟨o,ho⟩:=acf.1 h1;rw[hs _ _ ho];simp),h2⟩;rw[keep q (by omega) (by omega) (fun h=>h.elim (own sA) (own sU)),cQ q h0.1];exact(s.m q hq).1
 ·intro q hq;have base:q<W1.heap.size∧¬Z q∧¬(Own ψ (hA m []).get q∨Own ψ (hU x d).get q)∧¬Own ψ (hC d out l).get q:=by
   rcases abw.1 hq with rfl|hq
   ·have h1:=fl0 W.heap.size (by omega) (by omega);exact⟨h1.1,h1.2.1,h1.2.2,fun h=>by have:=cD _ h;omega⟩
   ·have h0:=Bq q hq;have own:∀{hp:Heap},(∀j o,hp.get j=some o→(hA m []++(hU x d++hC d out l)).get j=some o)→¬Own ψ hp.get q:=fun {hp} hs ⟨j,h1,h2⟩=>h0.2.2 ⟨j,(by obtain⟨o,ho⟩:=acf.1 h1;rw[hs _ _ ho];simp),h2⟩;exact⟨by omega,h0.2.1,fun h=>h.elim (own sA) (own sU),own sC⟩
  have h2:=O6.tr.Jf (X:=(·=q)) (fun b hb=>by have hb:b=q:=hb;subst hb;exact⟨base.1,base.2.1,base.2.2.1⟩) q rfl;exact⟨by rw[acG];exact h2.1,h2.2.1,fun h=>(ahn q h).elim h2.2.2 base.2.2.2⟩
end Go.Vs
namespace Go.Vs
open Go.Proofs Go.Cy
variable {Z Z' Z0:Nat→Prop} {ψ ψ' ψ0 tW Ah:Nat→Value} {h h':Hp} {w w' w0:World} {B0:Nat} {O N:Nat→Prop}
theorem xW{β α:Type}[DecidableEq β]{x z:β}{v:α}:∀{es:List (β×α)} {i:Nat},(es.findIdx? fun e=>decide (e.1=x))=some i→eR z (es.set i (x,v))=if x=z then some v else eR z es
 |[],i,h=>by simp at h
 |e::r,i,h=>by
  rw[List.findIdx?_cons]at h;by_cases he:e.1=x
  ·rw[if_pos (decide_eq_true he)]at h
   cases h
   rw[List.set_cons_zero,eR,eR];show(if x=z then some v else eR z r)=_;rw[he];by_cases k:x=z
   ·rw[if_pos k,if_pos k]
   ·rw[if_neg k,if_neg k,if_neg k]
  ·rw[if_neg (by simpa using he)]at h;obtain⟨j,hj,rfl⟩:=ac7.1 h;have ih:=xW (z:=z) (v:=v) hj;rw[List.set_cons_succ,eR,eR,ih];by_cases k:e.1=z
   ·rw[if_pos k,if_neg (fun q=>he (k.trans q.symm)),if_pos k]
   ·rw[if_neg k,if_neg k]
theorem xX{β α:Type}[DecidableEq β]{x z:β}{v:α}:∀{es:List (β×α)},(es.findIdx? fun e=>decide (e.1=x))=none→eR z (es++[(x,v)])=if x=z then some v else eR z es
 |[],_=>rfl
 |e::r,h=>by
  rw[List.findIdx?_eq_none_iff]at h;have he:e.1≠x:=by have:=h e abZ;simpa using this
  have ih:=xX (z:=z) (v:=v) (es:=r) (List.findIdx?_eq_none_iff.2 fun q hq=>h q (abq _ hq));rw[List.cons_append,eR,eR,ih];by_cases k:e.1=z
  ·rw[if_pos k,if_neg (fun q=>he (k.trans q.symm)),if_pos k]
  ·rw[if_neg k,if_neg k]
theorem O7{α:Type}(x z:ab)(v:α)(es:List (ab×α)):eR z (jn bL x v es)=if x=z then some v else eR z es:=by
 have e:=CL x es;unfold jn
 split
 ·rename_i i hi;exact xW (e.symm.trans hi)
 ·rename_i hi;exact xX (e.symm.trans hi)
def E5(m:Tm)(T:List ab):Prop:=∀z,(eR z m).getD false=decide (z∈T)
theorem E5.tell{m:Tm}{T:List ab}(h:E5 m T)(l:List ab):E5 (tell m l) (T++l):=by
 induction l generalizing m T with
 |nil=>rw[List.append_nil];exact h
 |cons y r ih =>
  have h1:E5 (oY m y) (T++[y]):=fun z=>by
   unfold oY;rw[O7];by_cases k:y=z
   ·subst k;simp
   ·rw[if_neg k,h z];have:(z∈T++[y])↔z∈T:=by simp[Ne.symm k]
    rw[Bool.eq_iff_iff];simp[Ne.symm k]
  have:=ih h1;rw[List.append_assoc]at this;exact this
theorem Sz{m:Tm}{T:List ab}(h:E5 m T)(y:ab):(fW bL (y.1,y.2) m).getD false=decide (y∈T):=by have:=Ll y m;show(fW bL y m).getD false=_;rw[this];exact h y
abbrev x0(n i:Int)(m:Tm)(d:ak)(out:List (List ab))(l:List ab):S0.T:=((n,(i,())),(((m,()),((d,()),())),(out,(l,()))))
theorem ML{Ds:List Nat}{sh:Shape}{x:sh.T}{a:Act}{W:World}(s:Ms Z0 w0 Ds sh x a W){i:Nat}{b:Bool}(e:look (ar sh x).tmps i=.bool b):a.eval (.tmp i)=.bool b:=by obtain⟨a0,Z,ψ,s⟩:=s;have:=s.t.rep i;rw[e]at this;rw[s.e,uN];exact this
theorem wB{n:Nat}{fn:Func}{tmps:Array Value}{R:Ending→World→Prop}:∀(Ds:List Nat) (W:World),Ds.Nodup→(∀D,D∈Ds→W.heap[D]? = some (.deferred (some []))) →(∀W',W'.os=W.os→W'.tape=W.tape→W'.output=W.output→W'.heap.size=W.heap.size→(∀b,b∉Ds→W'.heap[b]? = W.heap[b]?)→∃v,(results fn tmps).run Tryz.prog W'=.ok v W'∧R (.returned v) W') → LeavesInM (FW none) n Tryz.prog fn tmps R (Ds.map TS) .returning W
 |[],W,_,_,h=>h W rfl rfl rfl rfl fun _ _=>rfl
 |D::Ds,W,hn,hd,h=>by
  obtain⟨h1,h2⟩:=ab6.1 hn;refine⟨by simp,.inl ⟨D,_,rfl,run_takeDeferred (hd D abZ),?_⟩⟩;refine wB Ds _ h2 (fun E hE=>?_) fun W' e1 e2 e3 e4 e5=>?_
  ·rw[World.putObj_heap_other (fun e:E=D=>h1 (by rw[←e];exact hE))];exact hd E (abq _ hE)
  ·refine h W' e1 e2 e3 (e4.trans (by simp)) fun b hb=>?_;rw[e5 b (fun k=>hb (List.mem_cons_of_mem _ k))];exact World.putObj_heap_other fun e:b=D=>hb (by rw[e];exact abZ)
abbrev SN:Shape:=⟨[(0,kZ)],[],[],[]⟩
theorem O8{d:ak}(wf:Wf d):Ef Tryz.prog 240 yO ((d,()),()) ((bR d,()),()):=by
 intro Z ψ0 w kA hg hr;have hr:an Z ψ0 (Heap.get []) w [b5 kZ d] kA:=hr;have hg:Good Z ψ0 (Heap.get []) w w.heap.size (Own ψ0 (Heap.get [])):=hg;have CT:∀b,¬Own ψ0 (Heap.get []) b:=fun b ⟨i,h1,_⟩=>h1 rfl;simp only[an]at hr;obtain⟨u0,_,rfl,hu,rfl⟩:=hr;refine wA (r:=none) (n:=5) (callsIn_of_wp_marks Tryz.func240 Vh trivial ?_ rfl);obtain⟨Ai,Ji⟩:∃t:Array Value,t=#[u0]++Array.replicate (Tryz.f240.ntmps-(#[u0]:Array Value).size) undef:=⟨_,rfl⟩;show Code.wpIn _ _ _ _ _ { tmps:=#[u0]++Array.replicate (Tryz.f240.ntmps-(#[u0]:Array Value).size) undef,defers:=[] } w;rw[←Ji];have Yx:Ai.size=36:=by rw[Ji,Tryz.ntmps240];simp
 have e0:Ai.getD 0 undef=u0:=by rw[Ji];simp
 have ms0:MsX Z w [] SN ((d,()),((),())) { tmps:=Ai,defers:=[] } w { tmps:=Ai,defers:=[] } Z ψ0:=by refine⟨rfl,Wk.start Z w C7,hg.Sr fun b h _=>(CT b h).elim,eL (fun p hp=>?_) Yx rfl,List.nodup_nil,fun D hD=>(by cases hD),fun D hD=>(by cases hD)⟩;have hp:p∈[(0,b5 kZ d)]:=hp;simp only[List.mem_cons,List.not_mem_nil,or_false]at hp;subst hp;show au _ _ _ _ _ (Ai.getD 0 undef);rw[e0];exact hu
 have aho:F1 249 vJ ((d,()),())=some ((jF d.2,()),()):=Ss rfl (ack hg0 d wf.sm);have hn:=(ag4 F1 d).trans (aa aho rfl);refine wpIn_seq (wpIn_mono (Gy hn 5 ms0) ?_);rintro e a1 W1 ⟨rfl,a2,rfl,_,iL,Z1,nW,q1,Vj,t1⟩;refine wpIn_seq (wpIn_mono (dK qh q1 none 5 _ Vj t1) ?_);rintro e a3 W3 ⟨rfl,a4,rfl,_,st2,Z2,dR,q2,C6,t2⟩;refine wpIn_seq (wpIn_mono (dK qh q2 none 5 _ C6 t2) ?_);rintro e a5 W5 ⟨rfl,a6,rfl,_,st3,Z3,Qa,q3,Vl,t3⟩;refine wpIn_seq (wpIn_seq (wpIn_mono (dK qh q3 none 5 _ Vl t3) ?_));rintro e a7 W7 ⟨rfl,a8,rfl,_,st4,Z4,Bf,q4,Yt,t4⟩;have ms:=Lu ms0 q4 Yt t4;clear q1 q2 q3 q4 Vj C6 Vl Yt t1 t2 t3 t4;obtain⟨l,hl⟩:∃l,l=jF d.2:=⟨_,rfl⟩;rw[←hl]at ms;have hll:l.length≤80:=by rw[hl,rF];have:=wf.ne;omega
 have gW:∀y,y∈l→y∈aj d.1:=fun y hy=>by rw[hl,lD]at hy;exact wf.pd.mem_iff.2 hy
 refine wpIn_block ?_;refine Gx (fun k a W=>∃(i:Nat) (m:Tm) (out:List (List ab)) (T:List ab) (Ds:List Nat),i≤l.length∧k=l.length-i∧out.length≤i∧Ms Z w Ds S0 (x0 ((l.length:Nat):Int) (i:Int) m d out l) a W∧kq d (l.drop i) out T=bR d∧E5 m T) (k:=l.length) ⟨0,[],[],[],[],adO _,rfl,acn _,ms,by rw[List.drop_zero,hl];rfl,fun z=>by simp[eR]⟩ ?_;rintro k a W ⟨i,m,out,T,Ds,hi,rfl,ho,ms,JH,ht⟩;refine wpIn_seq (wpIn_mono (CP (n4 F1 ((l.length:Nat):Int) (i:Int) _) 5 ms) ?_);rintro e a1 W1 ⟨rfl,ms1⟩;have V6:=ML ms1 (i:=14) rfl;by_cases aF:i<l.length
 case neg =>
  have e:i=l.length:=by omega
  have ef:decide ((i:Int)<((l.length:Nat):Int))=false:=decide_eq_false (by omega);rw[ef]at V6;refine wpIn_seq (wpIn_cond_false V6 (wpIn_exit ?_));show Code.wpIn _ _ _ _ _ _ _;refine wpIn_seq (wpIn_mono (CP (n14 F1 _ _ _ m d out l) 5 ms1) ?_);rintro e a2 W2 ⟨rfl,ms2⟩;refine wpIn_ret ?_;obtain⟨a0,Z2,dR,s⟩:=ms2;rw[e,List.drop_eq_nil_of_le (Nat.le_refl _)]at JH;have JH:out=bR d:=JH;rw[s.e];show LeavesInM _ _ _ _ a0.tmps _ (a0.defers++Ds.map TS) .returning W2;rw[s.t.defers,List.nil_append];refine wB Ds W2 s.nd (fun D hD=>(s.m D hD).1) fun W3 e1 e2 e3 e4 e5=>?_;have zp:Tryz.f240.results=#[.tmp 2]:=by kernel_rfl
  have nZ:∀b,Z2 b∨Own dR (ar SE ((),((),(out,())))).heap.get b→b∉Ds:=fun b hb hD=>by have:=s.fr b hD;exact hb.elim this.2.1 this.2.2
  have g3:Good Z2 dR (ar SE ((),((),(out,())))).heap.get W3 w.heap.size C7:=s.g.same (fun _ h=>h) (fun b hb=>e5 b (nZ b hb)) (fun b hb hz=>(s.g.zA b hz).2 hb) fun b hb=>by rw[e4];exact s.g.jO b hb
  have k3:Wk Z w C7 Z2 W3:=⟨s.wk.fN,s.wk.eC,e1.trans s.wk.os,e2.trans s.wk.tape,e3.trans s.wk.output,by rw[e4];exact s.wk.size,fun b hb ho=>by rw[e5 b (fun hD=>by have:=(s.m b hD).2;omega)];exact s.wk.block b hb ho⟩;refine⟨_,results_tmp zp _ _ _,_,Z2,dR,rfl,k3.fN,fun b hb=>?_,⟨k3.os,k3.tape,k3.output,k3.size,fun b hb _=>k3.block b hb fun h=>h⟩,?_,fun i hi=>(by cases hi),?_⟩
  ·rcases k3.eC b hb with h|h|h
   ·exact .inl h
   ·exact h.elim
   ·exact .inr (.inr h)
  ·rw[JH]at g3;exact g3.Sr fun b _ hb=>hb.elim .inl fun h=>h.elim
  ·have r2:=s.t.rep 2;have:au Z2 dR (ar SE ((),((),(out,())))).heap.get W2 (.bC 3000) (a0.tmps.getD 2 undef):=r2;rw[JH]at this;simp only[au]at this;show au Z2 dR _ W3 (.bC 3000) _;simp only[au];exact this
 have et:decide ((i:Int)<((l.length:Nat):Int))=true:=bg aF;rw[et]at V6;refine wpIn_seq (wpIn_cond_true V6 (wpIn_skip ?_));refine wpIn_seq (wpIn_block (wpIn_seq ?_));have hy:=gW l[i] (acC aF);have h5:=(n5 F1 (decide ((i:Int)<((l.length:Nat):Int))) ((l.length:Nat):Int) (i:Int) m d out l).trans (ae (cY (kS i) (bg aF)) (aa (a:=l[i]) (by rw[Int.toNat_natCast];exact abv aF) rfl));refine wpIn_mono (MK h5 5 ms1) ?_;rintro e a2 W2 ⟨rfl,hc⟩;refine wpIn_seq (wpIn_seq (wpIn_mono hc ?_));rintro e a3 W3 ⟨rfl,ms3⟩;have Zr:=ML ms3 (i:=19) rfl;rw[Sz ht]at Zr;have MA:l.drop i=l[i]::l.drop (i+1):=aee aF;rw[MA,kq]at JH;by_cases hT:l[i]∈T
 ·rw[if_pos hT]at JH;refine wpIn_cond_true (Zr.trans (congrArg Value.bool (decide_eq_true hT))) (wpIn_exit ?_);show Code.wpIn _ _ _ _ _ _ _;refine wpIn_mono (CP (ag5 F1 _ _ _ m d l[i] out l) 5 ms3) ?_;rintro e a4 W4 ⟨rfl,ms4⟩;have ew:=aK aF (by omega);rw[ew]at ms4;exact⟨l.length-(i+1),by omega,i+1,m,out,T,Ds,by omega,rfl,by omega,ms4,JH,ht⟩
 rw[if_neg hT]at JH;refine wpIn_cond_false (Zr.trans (congrArg Value.bool (decide_eq_false hT))) (wpIn_skip ?_);refine wpIn_seq (wpIn_mono (MK (n7 F1 _ _ _ m d l[i] out l) 5 ms3) ?_);rintro e a4 W4 ⟨rfl,hc⟩;refine wpIn_seq (wpIn_seq (wpIn_mono hc ?_));rintro e a5 W5 ⟨rfl,ms5⟩;refine wpIn_block (wpIn_mono (Sy 5 wf hy ms5) ?_);rintro e a6 W6 ⟨rfl,ms6⟩;have JG:=(n12 F1 ((l.length:Nat):Int) (i:Int) (tell m (bf d l[i])) (bf d l[i]) d out l).trans (ae (fits (by omega)) rfl);refine wpIn_mono (CP JG 5 ms6) ?_;rintro e a7 W7 ⟨rfl,ms7⟩;refine wpIn_mono (CP (n13 F1 _ _ _) 5 ms7) ?_;rintro e a8 W8 ⟨rfl,ms8⟩;have ew:=aK aF (by omega);rw[ew]at ms8;exact⟨l.length-(i+1),by omega,i+1,_,_,_,_,by omega,rfl,by simp;omega,ms8,JH,ht.tell _⟩
end Go.Vs
