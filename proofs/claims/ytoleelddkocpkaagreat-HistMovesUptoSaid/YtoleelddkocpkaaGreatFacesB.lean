/- The walk of the function that -/
import Derived.Test.YtoleelddkocpkaaGreatFacesA
set_option linter.unusedSimpArgs false
set_option linter.unusedVariables false
namespace Go.Vs
open Go.Proofs Go.Cy
variable {Z Z' Z0:Nat→Prop} {ψ ψ' ψ0 vz BZ:Nat→Value} {h h':Hp} {w w' w0:World} {B0:Nat} {O N:Nat→Prop}
theorem Wt{p:Nat→Prop}(h:∃n,p n):∃n,p n∧∀m,m<n→¬p m:=by
 obtain⟨n,hn⟩:=h
 induction n using Nat.strongRecOn with
 |_ n ih =>
  grind
open Classical in
noncomputable def least(p:Nat→Prop):Nat:=if h:∃n,p n then Classical.choose (Wt h) else 0
theorem EE{p:Nat→Prop}(h:∃n,p n):p (least p)∧∀m,p m→least p≤m:=by
 unfold least
 grind
theorem I6{F:Fence}{n:Nat}{P:Program}{c:Code}{Q:Exit→Act→World→Prop}(I:Nat→Act→World→Prop){k:Nat}{a:Act}{w:World}(h0:I k a w) (round:∀k a w,I k a w→c.wpIn F n P (Exit.then (fun a' w'=>∃k',k'<k∧I k' a' w') Q) a w):(Code.loop c).wpIn F n P Q a w:=by
 refine wpIn_loop (fun a w=>∃k,I k a w) (fun a w=>least fun k=>I k a w) ⟨k,h0⟩ fun a w hI=>?_;obtain⟨h1,_⟩:=EE hI;refine wpIn_mono (round _ a w h1) fun e a' w' hq=>?_
 cases e with
 |normal=>obtain⟨k',h2,h3⟩:=hq;exact⟨⟨k',h3⟩,Nat.lt_of_le_of_lt ((EE ⟨k',h3⟩).2 k' h3) h2⟩
 |_=>exact hq
abbrev hU(x:ab)(d:ak):Heap:=(aw U0 ((),(((x,()),((d,()),())),()))).heap
abbrev hB(x:ab)(d:ak)(y:ab):Heap:=(aw U1 ((true,()),(((x,()),((d,()),((y,()),()))),()))).heap
def qb(m:Tm)(y:ab):Tm:=jK bg y true m
def tell(m:Tm)(l:List ab):Tm:=l.foldl qb m
theorem R8(m:Tm)(l:List ab)(y:ab):tell m (l++[y])=qb (tell m l) y:=by simp[tell]
structure Bt(W1:World)(Z1:Nat→Prop)(OA OB:Nat→Prop)(B0:Nat)(O:Nat→Prop)(l:Nat)(rc:Loop)(tm:Array Value)(m:Tm)(f:List ab)(x:ab)(d:ak)(y:ab)(Z:Nat→Prop)(vz BZ:Nat→Value)(a:Act)(W:World):Prop where
 gA:Good Z vz (hA m f).get W B0 O
 gB:Good Z BZ (hB x d y).get W B0 O
 ap:im (Own BZ (hB x d y).get) Z (Own vz (hA m f).get) W
 s:Sl tm Z vz (hA m f).get W
 hl:W.heap[l]? = some (.loop rc)
 fl:im (·=l) Z (fun b=>Own vz (hA m f).get b∨Own BZ (hB x d y).get b) W
 tr:Tr (·=l) Z1 (fun b=>OA b∨OB b) W1 Z (fun b=>Own vz (hA m f).get b∨Own BZ (hB x d y).get b) W
 a0:a.tmps.getD 0 undef=.func (.yield l) #[] #[]
 b0:B0≤W.heap.size
theorem acv{W:World}{x y:ab}{d:ak}{v:Value}(g:Good Z BZ (hB x d y).get W B0 O)(hr:az Z BZ (hB x d y).get W (.ref 20004 0 0 0) v):∃V,(Instr.loadAt 40 v).run Tryz.prog W=.ok V W∧∀ψ h,az Z ψ h W (cc bg y) V:=by
 have hb:(hB x d y).get 20004=some (.box 40 (enc bg y)):=rfl;obtain⟨q,vs,e1,e2,e3,e4⟩:=g.box _ _ _ hb;simp only[az]at hr;obtain⟨ad,rfl,h2⟩:=hr;have h3:=h2 (by rw[hb];simp);rw[e1]at h3;have h3:ad=⟨q,0,none⟩:=h3;subst h3;obtain⟨V,h4,h5⟩:=ky (P:=Tryz.prog) (t:=40) (a:=⟨q,0,none⟩) (x:=cc bg y) e3 (fun j u hu=>by
  rw[cE,Nat.zero_add]
  grind [World.cell?]) (by kernel_rfl)
 exact⟨V,h4,fun ψ h=>h5.move (p:=fun _=>False) (fun _ h=>h) (cr.refl _ _) (fun _ k=>k.elim) (pn _ bg y)⟩
structure Itr(W1:World)(Z1:Nat→Prop)(OA OB:Nat→Prop)(B0:Nat)(O:Nat→Prop)(l:Nat)(rc:Loop)(tm:Array Value)(m:Tm)(f:List ab)(Z:Nat→Prop)(vz:Nat→Value)(W:World):Prop where
 gA:Good Z vz (hA m f).get W B0 O
 s:Sl tm Z vz (hA m f).get W
 hl:W.heap[l]? = some (.loop rc)
 tr:Tr (·=l) Z1 (fun b=>OA b∨OB b) W1 Z (Own vz (hA m f).get) W
theorem YZ(n:Nat){W1:World}{m:Tm}{f:List ab}{x:ab}{d:ak}{l D:Nat}{fn:FuncId}{tm:Array Value}{px pd:Value}(wf:Wf d)(hx:x∈an d.1) (gA:Good Z vz (hA m f).get W1 B0 O) (gB:Good Z BZ (hU x d).get W1 B0 O) (ap:im (Own BZ (hU x d).get) Z (Own vz (hA m f).get) W1) (hB0:B0≤W1.heap.size) (s:Sl tm Z vz (hA m f).get W1) (rx:az Z BZ (hU x d).get W1 (.ref 20002 0 0 0) px) (rd:az Z BZ (hU x d).get W1 (.ref 20003 0 0 0) pd) (hl:W1.heap[l]? = some (.loop (oO .ready fn tm D))) (fl:im (·=l) Z (fun b=>Own vz (hA m f).get b∨Own BZ (hU x d).get b) W1) (hf:f.length+(bm d x).length≤fk) :
  CallsIn (FW none) n Tryz.prog 234 #[.func (.yield l) #[] #[],px,pd] W1 fun e W'=>(∃v,e=.returned v)∧∃Z' ψ',Itr W1 Z (Own vz (hA m f).get) (Own BZ (hU x d).get) B0 O l (oO .ready fn tm D) tm (tell m (bm d x)) (f++bm d x) Z' ψ' W':=by
 obtain⟨r0,htr,E9,bu,hcy⟩:=Er wf hx;refine callsIn_of_wp Tryz.func234 YX trivial ?_ rfl;obtain⟨Fx,Py⟩:∃t:Array Value,t=#[.func (.yield l) #[] #[],px,pd]++Array.replicate (Tryz.f234.ntmps-(#[.func (.yield l) #[] #[],px,pd]:Array Value).size) undef:=⟨_,rfl⟩;rw[←Py];have hs0:Fx.size=23:=by simp_all
 have e0:Fx.getD 0 undef=.func (.yield l) #[] #[]:=by rw[Py];simp
 have e1:Fx.getD 1 undef=px:=by rw[Py];simp
 have e2:Fx.getD 2 undef=pd:=by rw[Py];simp
 have t0:cT Z BZ (hU x d).get W1 23 (look (aw U0 ((),(((x,()),((d,()),())),()))).tmps) { tmps:=Fx,defers:=[] }:=by
  refine fq (fun p hp=>?_) hs0 rfl;have hp:p∈[(1,AV.ref 20002 0 0 0),(2,AV.ref 20003 0 0 0)]:=hp
  grind
 have zA:∀b,Z b→¬Own vz (hA m f).get b:=fun b hb=>(gA.zA b hb).2;have zl:∀b,Z b→¬b=l:=fun b hb e=>(fl l rfl).2.1 (e▸hb);refine wpIn_seq ?_;refine wpIn_mono (eE rl (u0 F1 x d) none n [] (Good.start gB) t0) ?_;rintro e a1 W2 ⟨rfl,a2,rfl,k1,jq,Z1,oR,acq,YY,t1⟩;obtain⟨Z2,eU,EZ,t2⟩:=gV acq YY t1;have gB2:Good Z2 eU (hB x d x).get W2 B0 O:=EZ.NR gB hB0;have tr2:Tr (fun _=>False) Z (Own BZ (hU x d).get) W1 Z2 (Own eU (hB x d x).get) W2:=EZ.tr;have fA:im (Own vz (hA m f).get) Z (Own BZ (hU x d).get) W1:=fun b hb=>⟨gA.bO hb,fun hz=>zA b hz hb,fun h2=>(ap b h2).2.2 hb⟩;have gA2:Good Z2 vz (hA m f).get W2 B0 O:=tr2.part (fun b hb=>(gB.zA b hb).2) gA fA (fun _ _ h=>h) gB2.kx;obtain⟨fA2,_⟩:=tr2.free fA fun _ _ h=>h;have ap2:im (Own eU (hB x d x).get) Z2 (Own vz (hA m f).get) W2:=fun b hb=>⟨gB2.bO hb,fun hz=>(gB2.zA b hz).2 hb,fun h2=>(fA2 b h2).2.2 hb⟩;have sm2:cr Z W1 W2:=tr2.same gB.zA fun _ _ h=>h;have s2:Sl tm Z2 vz (hA m f).get W2:=⟨s.n,s.t4.less EZ.gy sm2 fun i hi=>⟨hi,rfl⟩,s.t7.less EZ.gy sm2 fun i hi=>⟨hi,rfl⟩⟩;obtain⟨Wr,u5⟩:=(tr2.beside (Own vz (hA m f).get)).free (X:=(·=l)) (fun b hb=>⟨(fl b hb).1,(fl b hb).2.1,fun h=>(fl b hb).2.2 h.symm⟩) fun _ _ h=>h;rw[dU];refine wpIn_block ?_;have start:Bt W1 Z (Own vz (hA m f).get) (Own BZ (hU x d).get) B0 O l (oO .ready fn tm D) tm m f x d x Z2 vz eU a2 W2 :=⟨gA2,gB2,ap2,s2,(u5 l rfl).trans hl,fun b hb=>⟨(Wr b hb).1,(Wr b hb).2.1,fun h=>(Wr b hb).2.2 h.symm⟩,(tr2.beside (Own vz (hA m f).get)).less (fun b h=>h.symm) (fun b h=>h.symm) (fun _ h=>h.elim),(k1 0 (by simp)).trans e0,acz hB0 tr2.size⟩;refine I6 (fun k a W=>∃pre y rest Z' amO agP b,bm d x=pre++y::rest∧k=rest.length∧Bt W1 Z (Own vz (hA m f).get) (Own BZ (hU x d).get) B0 O l (oO .ready fn tm D) tm (tell m pre) (f++pre) x d y Z' amO agP a W ∧ cT Z' agP (hB x d y).get W 23 (look (aw U1 ((b,()),(((x,()),((d,()),((y,()),()))),()))).tmps) a) (k:=r0.length) ⟨[],x,r0,Z2,vz,eU,true,htr,rfl,by rw[List.append_nil];exact start,t2⟩ ?_;rintro k a W ⟨pre,y,rest,Z3,Tw,CR,bb,wy,rfl,bt,t3⟩;have hy:y∈an d.1:=bu y (by grind);have r4:az Z3 CR (hB x d y).get W (.ref 20004 0 0 0) (a.tmps.getD 4 undef):=t3.rep 4;obtain⟨V,hV,rV⟩:=acv bt.gB r4;have hlen:(f++pre).length+1≤fk:=by
  grind
 have rin:=Wq (n-1) bt.gA bt.b0 bt.s (rV Tw _) hlen bt.hl (fun b hb=>⟨(bt.fl b hb).1,(bt.fl b hb).2.1,fun h=>(bt.fl b hb).2.2 (.inl h)⟩);have Fp:(Instr.yield l #[V]).run Tryz.prog W=.ok (.round l fn (tm.setIfInBounds 23 V) (r6 9) bd) W:=by have:=run_yield (P:=Tryz.prog) (args:=#[V]) bt.hl rfl;simp_all [oO]
 refine wpIn_seq (wpIn_seq ?_);refine Ws n t3.size bt.a0 hV Fp (rin.mono ?_);rintro e W4 ⟨rfl,Z4,Pz,LS⟩;refine⟨.bool true,rfl,?_⟩;obtain⟨b,hb⟩:∃b,b=((a.put (some 7) (.func (.yield l) #[] #[])).put (some 8) V).put (some 9) (.bool true):=⟨_,rfl⟩;rw[←hb];have other:∀i,i≠7→i≠8→i≠9→b.tmps.getD i undef=a.tmps.getD i undef:=fun i h7 h8 h9=>by rw[hb,db _ _ (fun j hj=>by simp_all),db _ _ (fun j hj=>by simp_all),db _ _ (fun j hj=>by simp_all)]
 have bsz:b.tmps.size=23:=by rw[hb,cG,cG,cG];exact t3.size
 have bdf:b.defers=[]:=by rw[hb,put_defers,put_defers,put_defers];exact t3.defers
 have b9:b.eval (.tmp 9)=.bool true:=by
  have:((a.put (some 7) (.func (.yield l) #[] #[])).put (some 8) V).tmps.size=23:=by grind [cG]
  rw[hb];show(((a.put (some 7) (.func (.yield l) #[] #[])).put (some 8) V).put (some 9) (.bool true)).tmps.getD 9 undef=_;rw[iC (by omega),if_pos rfl]
 refine wpIn_cond_true b9 (wpIn_skip (wpIn_block (wpIn_seq ?_)));have z3l:∀q,Z3 q→¬q=l:=fun q hq e=>(bt.fl l rfl).2.1 (e▸hq);have bl:∀q,Own CR (hB x d y).get q→¬q=l:=fun q hq e=>(bt.fl l rfl).2.2 (.inr (e▸hq));have gB4:Good Z4 CR (hB x d y).get W4 B0 O:=LS.tr.part (fun q hq=>(bt.gA.zA q hq).2) bt.gB bt.ap (fun q hq=>hq.elim (z3l q) (bl q)) LS.g.kx;obtain⟨ap4,_⟩:=LS.tr.free bt.ap bl;have sm4:cr Z3 W W4:=LS.tr.same bt.gA.zA z3l;have t4:cT Z4 CR (hB x d y).get W4 23 (look (aw U1 ((bb,()),(((x,()),((d,()),((y,()),()))),()))).tmps) b:=by
  have up:∀i v,i≠7→i≠8→i≠9→look (aw U1 ((bb,()),(((x,()),((d,()),((y,()),()))),()))).tmps i=v→az Z4 CR (hB x d y).get W4 v (b.tmps.getD i undef):=fun i v h7 h8 h9 e=>by rw[other i h7 h8 h9,←e];exact(t3.rep i).less LS.tr.gy sm4 fun j hj=>⟨hj,rfl⟩
  refine fq (fun p hp=>?_) bsz bdf;have hp:p∈[(5,AV.bool bb),(1,AV.ref 20002 0 0 0),(2,AV.ref 20003 0 0 0),(4,AV.ref 20004 0 0 0)]:=hp;simp only[List.mem_cons,List.not_mem_nil,or_false]at hp;rcases hp with rfl|rfl|rfl|rfl
  ·exact up 5 _ (by decide) (by decide) (by decide) rfl
  ·exact up 1 _ (by decide) (by decide) (by decide) rfl
  ·exact up 2 _ (by decide) (by decide) (by decide) rfl
  ·exact up 4 _ (by decide) (by decide) (by decide) rfl
 have hB4:B0≤W4.heap.size:=acz bt.b0 LS.tr.size;have amP:F1 235 GI ((d,((y.1,y.2),())),())=some ((ph d y,(true,())),()):=by have:=Wo rfl (agB hg0 d y wf);rw[LC wf hy]at this;exact this
 have hn:=(u2 F1 bb x y d).trans (aa amP rfl);have run:=eE rl hn none n [] (Good.start gB4) t4;rw[dU]at run;refine wpIn_mono run ?_;clear run;rintro e a5 W5 ⟨rfl,a6,rfl,k6,st6,Z6,ψ6,acs,ok6,t6⟩;refine wpIn_seq ?_;refine wpIn_mono (eE rl acs none n [] ok6 t6) ?_;rintro e a7 W7 ⟨rfl,a8,rfl,k8,st8,Z8,ψ8,amQ,ok8,t8⟩;obtain⟨Z9,ψ9,ok9,t9⟩:=gV amQ ok8 t8;rw[dU];have gB9:Good Z9 ψ9 (hB x d (ph d y)).get W7 B0 O:=ok9.NR gB4 hB4;have tr9:Tr (fun _=>False) Z4 (Own CR (hB x d y).get) W4 Z9 (Own ψ9 (hB x d (ph d y)).get) W7:=ok9.tr;have fA4:im (Own Pz (hA (qb (tell m pre) y) (f++pre++[y])).get) Z4 (Own CR (hB x d y).get) W4:=fun q hq=>⟨LS.g.bO hq,fun hz=>(LS.g.zA q hz).2 hq,fun h2=>(ap4 q h2).2.2 hq⟩;have gA9:Good Z9 Pz (hA (qb (tell m pre) y) (f++pre++[y])).get W7 B0 O:=tr9.part (fun q hq=>(gB4.zA q hq).2) LS.g fA4 (fun _ _ h=>h) gB9.kx;obtain⟨fA9,_⟩:=tr9.free fA4 fun _ _ h=>h;have ap9:im (Own ψ9 (hB x d (ph d y)).get) Z9 (Own Pz (hA (qb (tell m pre) y) (f++pre++[y])).get) W7:=fun q hq=>⟨gB9.bO hq,fun hz=>(gB9.zA q hz).2 hq,fun h2=>(fA9 q h2).2.2 hq⟩;have sm9:cr Z4 W4 W7:=tr9.same gB4.zA fun _ _ h=>h;have s9:Sl tm Z9 Pz (hA (qb (tell m pre) y) (f++pre++[y])).get W7:=⟨LS.s.n,LS.s.t4.less ok9.gy sm9 fun i hi=>⟨hi,rfl⟩,LS.s.t7.less ok9.gy sm9 fun i hi=>⟨hi,rfl⟩⟩;have trB:Tr (·=l) Z1 (fun q=>Own vz (hA m f).get q∨Own BZ (hU x d).get q) W1 Z1 (fun q=>Own vz (hA m f).get q∨Own BZ (hU x d).get q) W1:=Tr.refl;have tr4:Tr (·=l) Z (fun q=>Own vz (hA m f).get q∨Own BZ (hU x d).get q) W1 Z9 (fun q=>Own Pz (hA (qb (tell m pre) y) (f++pre++[y])).get q∨Own ψ9 (hB x d (ph d y)).get q) W7 :=(bt.tr.trans (LS.tr.beside _)).trans ((tr9.beside (Own Pz (hA (qb (tell m pre) y) (f++pre++[y])).get)).less (fun q h=>h.symm) (fun q h=>h.symm) (fun _ h=>h.elim));have fl4:im (·=l) Z4 (fun q=>Own Pz (hA (qb (tell m pre) y) (f++pre++[y])).get q∨Own CR (hB x d y).get q) W4:=fun q hq=>by
  have hq:q=l:=hq;subst hq;have h0:=bt.fl q rfl;refine⟨adg h0.1 LS.tr.size,fun hz=>?_,fun ho=>?_⟩
  ·rcases LS.tr.fb q hz with e|e|e
   ·exact h0.2.1 e
   ·simp_all
   omega
  ·rcases ho with ho|ho
   ·rcases LS.tr.own q ho with e|e
    ·simp_all
    omega
   simp_all
 obtain⟨fl9,hl9⟩:=(tr9.beside (Own Pz (hA (qb (tell m pre) y) (f++pre++[y])).get)).free (X:=(·=l)) (fun q hq=>⟨(fl4 q hq).1,(fl4 q hq).2.1,fun h=>(fl4 q hq).2.2 h.symm⟩) fun _ _ h=>h;have a8z:a8.tmps.getD 0 undef=.func (.yield l) #[] #[]:=(k8 0 (by simp)).trans ((k6 0 (by simp)).trans ((other 0 (by decide) (by decide) (by decide)).trans bt.a0));have agT:W7.heap[l]? = some (.loop (oO .ready fn tm D)):=(hl9 l rfl).trans LS.l;have h22:a8.eval (.tmp 22)=.bool (((((ph d y).1.1==x.1.1)&&((ph d y).1.2==x.1.2))&&((ph d y).2==x.2))):=t9.rep 22;have agU:qb (tell m pre) y=tell m (pre++[y]):=(R8 m pre y).symm;have amU:f++pre++[y]=f++(pre++[y]):=List.append_assoc _ _ _;rw[agU,amU]at gA9 ap9 s9 tr4 fl9;have hp:Path (ph d) (pre++y::rest) x:=by rw[←wy,htr];exact hcy
 have hpy:ph d y=rest.head?.getD x:=(Path.app.1 hp).2.1;rw[lJ]at h22
 cases rest with
 |nil =>
  have e:ph d y=x:=hpy;refine wpIn_cond_true (h22.trans (congrArg Value.bool (decide_eq_true e))) (wpIn_ret ?_);have xg:(results Tryz.f234 a8.tmps).run Tryz.prog W7=.ok (.tuple #[]) W7:=by
   have hr:Tryz.f234.results=#[]:=by kernel_rfl
   grind [results_none]
  refine⟨t9.defers,_,xg,⟨_,rfl⟩,Z9,Pz,?_⟩;rw[wy];exact⟨gA9,s9,agT,tr4.less (fun _ h=>h) (fun q h=>.inl h) fun _ h=>h⟩
 |cons y' r =>
  have e:ph d y=y':=hpy;have bz:ph d y≠x:=fun k=>by
   rw[htr]at wy;have acx:=E9;rw[wy]at acx;have h1:x∈pre++[y]:=by
    cases pre with
    |nil=>grind
    |cons q t=>simp at wy;simp[wy.1]
   rw[show pre++y::y'::r=(pre++[y])++y'::r by simp]at acx;exact(adk.1 acx).2.2 x h1 y' abV (k.symm.trans e)
  refine wpIn_cond_false (h22.trans (congrArg Value.bool (decide_eq_false bz))) (wpIn_skip ?_);rw[e]at gB9 ap9 tr4 fl9 t9;refine⟨r.length,by simp,pre++[y],y',r,Z9,Pz,ψ9,true,by rw[wy];simp,rfl,⟨gA9,gB9,ap9,s9,agT,fun q hq=>⟨(fl9 q hq).1,(fl9 q hq).2.1,fun h=>(fl9 q hq).2.2 h.symm⟩,tr4,a8z,acz hB4 tr9.size⟩,?_⟩;refine fq (fun p hp=>?_) t9.size t9.defers;have hp:p∈[(5,AV.bool true),(1,AV.ref 20002 0 0 0),(2,AV.ref 20003 0 0 0),(4,AV.ref 20004 0 0 0)]:=hp;simp only[List.mem_cons,List.not_mem_nil,or_false]at hp;rcases hp with rfl|rfl|rfl|rfl
  ·exact t9.rep 5
  ·exact t9.rep 1
  ·exact t9.rep 2
  ·exact t9.rep 4
end Go.Vs
namespace Go.Vs
open Go.Proofs Go.Cy
variable {Z Z' Z0:Nat→Prop} {ψ ψ' ψ0 vz BZ:Nat→Value} {h h':Hp} {w w' w0:World} {B0:Nat} {O N:Nat→Prop}
abbrev E0:Nat→Prop:=fun _=>False
def XI(D:Nat):Deferred:={ target:=.collected D,args:=#[] }
structure MsX(Z0:Nat→Prop)(w0:World)(Ds:List Nat)(sh:Shape)(x:sh.T)(a:Act)(W:World)(a0:Act)(Z:Nat→Prop)(ψ:Nat→Value):Prop where
 e:a=l6 (Ds.map XI) a0
 wk:Wk Z0 w0 E0 Z W
 g:Good Z ψ (aw sh x).heap.get W w0.heap.size E0
 t:cT Z ψ (aw sh x).heap.get W 36 (look (aw sh x).tmps) a0
 nd:Ds.Nodup
 m:∀D,D∈Ds→W.heap[D]? = some (.deferred (some []))∧w0.heap.size≤D
 fr:im (·∈Ds) Z (Own ψ (aw sh x).heap.get) W
def Ms(Z0:Nat→Prop)(w0:World)(Ds:List Nat)(sh:Shape)(x:sh.T)(a:Act)(W:World):Prop:=∃a0 Z ψ,MsX Z0 w0 Ds sh x a W a0 Z ψ
variable {Ds:List Nat} {sh sh':Shape} {x:sh.T} {x':sh'.T} {a:Act} {W:World}
theorem I7{c:Code}{R:Type}{kk:St→Option R}{y:R}(hx:rn F1 36 [] c (aw sh x) kk=some y)(n:Nat){a0:Act}(s:MsX Z0 w0 Ds sh x a W a0 Z ψ) :
  c.wpIn (FW none) n Tryz.prog (Aft 36 [] (fun d=>a0.tmps.getD d undef) (Ds.map XI) kk y Z W (Own ψ (aw sh x).heap.get) ψ) a W:=by
 rw[s.e];exact eE rl hx none n _ (Good.start s.g) s.t
theorem NU{st:St}{a1:Act}{W':World}(s:MsX Z0 w0 Ds sh x a W a1 Z ψ)(Ak:cJ sh' st=some x'){ψ':Nat→Value}{Z':Nat→Prop}{a2:Act}(ok:Ok Z W (Own ψ (aw sh x).heap.get) ψ Z' ψ' st.heap.get W')(t:cT Z' ψ' st.heap.get W' 36 (look st.tmps) a2):Ms Z0 w0 Ds sh' x' (l6 (Ds.map XI) a2) W':=by obtain⟨Z2,eU,EZ,t2⟩:=gV Ak ok t;obtain⟨f1,f2⟩:=(EZ.tr (L:=E0)).free s.fr fun _ _ h=>h;exact⟨a2,Z2,eU,rfl,s.wk.step (EZ.tr (L:=E0)) s.g.from (fun _ h=>h.elim),EZ.NR s.g s.wk.size,t2,s.nd,fun D hD=>⟨(f2 D hD).trans (s.m D hD).1,(s.m D hD).2⟩,f1⟩
theorem EF{c:Code}(hx:rn F1 36 [] c (aw sh x) (cJ sh')=some x')(n:Nat)(s:Ms Z0 w0 Ds sh x a W):c.wpIn (FW none) n Tryz.prog (fun e a' W'=>e=.normal∧Ms Z0 w0 Ds sh' x' a' W') a W:=by obtain⟨a0,Z,ψ,s⟩:=s;refine wpIn_mono (I7 hx n s) ?_;rintro e a1 W1 ⟨rfl,a2,rfl,_,st,Z1,oR,Ak,ok,t⟩;exact⟨rfl,NU s Ak ok t⟩
theorem PA{c c':Code}(hx:(rn F1 36 [] c (aw sh x) fun st=>rn F1 36 [] c' st (cJ sh'))=some x')(n:Nat)(s:Ms Z0 w0 Ds sh x a W) :
  c.wpIn (FW none) n Tryz.prog (fun e a' W'=>e=.normal∧c'.wpIn (FW none) n Tryz.prog (fun e a' W'=>e=.normal∧Ms Z0 w0 Ds sh' x' a' W') a' W') a W:=by
 obtain⟨a0,Z,ψ,s⟩:=s;refine wpIn_mono (I7 hx n s) ?_;rintro e a1 W1 ⟨rfl,a2,rfl,_,st,Z1,oR,Ak,ok,t⟩;refine⟨rfl,wpIn_mono (eE rl Ak none n _ ok t) ?_⟩;rintro e a3 W3 ⟨rfl,a4,rfl,_,st3,Z3,Tw,acy,Y0,t3⟩;exact⟨rfl,NU s acy Y0 t3⟩
abbrev hC(d:ak)(out:List (List ab))(l:List ab):Heap:=[(20004,.box 27 (enc dG d))]++sx rws ((out,(l,())):Mw (rws.map (·.2.2)))
theorem B2{i:Nat}{v:Value}(hr:az Z ψ h w (.bK i) v)(hi:h' i≠none→h i≠none∧ψ' i=ψ i):az Z' ψ' h' w' (.bK i) v:=by
 grind [az]
theorem EG{m:Tm}{f:List ab}{i:Nat}(h:(hA m f).get i≠none):i=20000∨i=9000∨i=20001∨i=9016:=by
 have e:hA m f=[(20000,.box 201 [.bK 9000]),(9000,.own (.map bg .bool) m),(20001,.box 36 [.bK 9016]),(9016,.own (.row 40 bg) f)]:=rfl;rw[e]at h;simp only[Heap.get]at h
 grind
theorem I8{x:ab}{d:ak}{i:Nat}(h:(hU x d).get i≠none):i=20002∨i=20003:=by
 have e:hU x d=[(20002,.box 40 (enc bg x)),(20003,.box 27 (enc dG d))]:=rfl;rw[e]at h;simp only[Heap.get]at h
 grind
theorem EH{d:ak}{out:List (List ab)}{l:List ab}{i:Nat}(h:(hC d out l).get i≠none):i=20004∨i=31000∨i=31001:=by
 have e:hC d out l=[(20004,.box 27 (enc dG d)),(31000,.own (.row 36 (.sl bg)) out),(31001,.own (.row 40 bg) l)]:=rfl;rw[e]at h;simp only[Heap.get]at h
 grind
theorem zY{a b:Heap}{i:Nat}{o:Ob}(h:a.get i=some o):(a++b).get i=some o:=by rw[Heap.get_append,h]
theorem zZ{a b:Heap}{i:Nat}(h:a.get i=none):(a++b).get i=b.get i:=by rw[Heap.get_append,h]
theorem I9{h:Hp}{i:Nat}(k:h i≠none→False):h i=none:=by simp_all
theorem EI{a b c:Heap}(g:Good Z ψ c.get w B0 O)(sa:∀i o,a.get i=some o→c.get i=some o)(sb:∀i o,b.get i=some o→c.get i=some o)(dis:∀i,a.get i≠none→b.get i≠none→False):im (Own ψ b.get) Z (Own ψ a.get) w:=by
 have up:∀{e:Heap} (se:∀i o,e.get i=some o→c.get i=some o) {i},e.get i≠none→c.get i≠none:=fun {e} se {i} hi=>by obtain⟨o,ho⟩:=abK.1 hi;simp_all
 rintro q ⟨i,h1,h2⟩;refine⟨g.bO ⟨i,up sb h1,h2⟩,(g.live i q (up sb h1) h2).1,?_⟩;rintro⟨j,h3,h4⟩;have e:=g.apart i j q (up sb h1) (up sa h3) h2 h4;simp_all
end Go.Vs
namespace Go.Vs
open Go.Proofs Go.Cy
variable {Z Z' Z0:Nat→Prop} {ψ ψ' ψ0 vz BZ:Nat→Value} {h h':Hp} {w w' w0:World} {B0:Nat} {O N:Nat→Prop}
variable {Ds:List Nat} {a:Act} {W:World}
abbrev x3(n i:Int)(m:Tm)(f:List ab)(x:ab)(d:ak)(out:List (List ab))(l:List ab):S3.T:=((n,(i,())),(((m,()),((f,()),((x,()),((d,()),((d,()),()))))),(out,(l,()))))
abbrev x12(n i:Int)(m:Tm)(f:List ab)(d:ak)(out:List (List ab))(l:List ab):S12.T:=((n,(i,())),(((m,()),((f,()),((d,()),()))),(out,(l,()))))
set_option maxRecDepth 20000 in
theorem Wu(k:Nat){n i:Int}{m:Tm}{x:ab}{d:ak}{out:List (List ab)}{l:List ab}(wf:Wf d)(hx:x∈an d.1)(s:Ms Z0 w0 Ds S3 (x3 n i m [] x d out l) a W) :
  cRF.wpIn (FW none) k Tryz.prog (fun e a' W'=>e=.normal∧Ms Z0 w0 (W.heap.size::Ds) S12 (x12 n i (tell m (bm d x)) (bm d x) d out l) a' W') a W:=by
 obtain⟨a0,Z,ψ,s⟩:=s;have hH:(aw S3 (x3 n i m [] x d out l)).heap=hA m []++(hU x d++hC d out l):=rfl;have hg:=s.g;have C3:=s.fr;have ht:=s.t;rw[hH]at hg C3 ht;have sA:∀j o,(hA m []).get j=some o→(hA m []++(hU x d++hC d out l)).get j=some o:=fun j o e=>zY e;have nA:∀{j},j=20002∨j=20003∨j=20004∨j=31000∨j=31001→∀m f,(hA m f).get j=none:=fun {j} hj m f=>I9 fun e=>by grind [EG]
 have nU:∀{j},j=20004∨j=31000∨j=31001→(hU x d).get j=none:=fun {j} hj=>I9 fun e=>by grind [I8]
 have sU:∀j o,(hU x d).get j=some o→(hA m []++(hU x d++hC d out l)).get j=some o:=fun j o e=>by
  have:=I8 (show(hU x d).get j≠none by rw[e];simp)
  grind [zZ,zY]
 have sC:∀j o,(hC d out l).get j=some o→(hA m []++(hU x d++hC d out l)).get j=some o:=fun j o e=>by
  have:=EH (show(hC d out l).get j≠none by rw[e];simp)
  grind [zZ]
 have gA:=hg.sub sA;have gU:=hg.sub sU;have gC:=hg.sub sC;have fUA:im (Own ψ (hU x d).get) Z (Own ψ (hA m []).get) W:=EI hg sA sU fun j h1 h2=>by grind [EG,I8]
 have fCA:im (Own ψ (hC d out l).get) Z (Own ψ (hA m []).get) W:=EI hg sA sC fun j h1 h2=>by grind [EG,EH]
 have fCU:im (Own ψ (hC d out l).get) Z (Own ψ (hU x d).get) W:=EI hg sU sC fun j h1 h2=>by grind [I8,EH]
 have h22:=ht.rep 22;have e22:look (aw S3 (x3 n i m [] x d out l)).tmps 22=.fn 234 [.ref 20002 0 0 0,.ref 20003 0 0 0]:=rfl;rw[e22]at h22;simp only[az,au]at h22;obtain⟨ws,hv,px,_,Tz,rx,pd,_,rfl,rd,rfl⟩:=h22;have Tz:ws=#[px,pd]:=Array.ext' Tz;subst Tz;have less:∀{hp:Heap} {v:AV} {u:Value},(∀j o,hp.get j=some o→(hA m []++(hU x d++hC d out l)).get j=some o)→az Z ψ (hA m []++(hU x d++hC d out l)).get W v u→az Z ψ hp.get W v u:=fun {hp v u} hs hr=>hr.oF hs;have rx:az Z ψ (hU x d).get W (.ref 20002 0 0 0) px:=less sU (by grind [az]);have rd:az Z ψ (hU x d).get W (.ref 20003 0 0 0) pd:=less sU (by grind [az]);have sl:Sl a0.tmps Z ψ (hA m []).get W:=⟨ht.size,less sA (ht.rep 4),less sA (ht.rep 7)⟩;rw[s.e];refine wpIn_rangeFunc ?_;intro fn _;obtain⟨D,hD⟩:∃D,D=W.heap.size:=⟨_,rfl⟩;obtain⟨W1,GU⟩:∃W1,W1=(W.alloc (.deferred (some []))).alloc (.loop (oO .ready fn a0.tmps D)):=⟨_,rfl⟩;have iW:W1.heap.size=D+2:=by rw[GU,hD];simp
 have cF:∀b,b<W.heap.size→W1.heap[b]? = W.heap[b]? := fun b hb=>by
  grind [heap_alloc_old,World.size_alloc]
 have hL1:W1.heap[D+1]? = some (.loop (oO .ready fn a0.tmps D)):=by
  grind [World.alloc_heap_new,oO,World.size_alloc]
 have hD1:W1.heap[D]? = some (.deferred (some [])):=by
  grind [heap_alloc_old,World.size_alloc,World.alloc_heap_new]
 have lift:∀{hp:Heap} {ψ:Nat→Value},Good Z ψ hp.get W w0.heap.size E0→Good Z ψ hp.get W1 w0.heap.size E0:=fun {hp ψ} g=>g.same (fun _ h=>h) (fun b hb=>cF b (hb.elim (g.kx b) g.bO)) (fun b hb hz=>(g.zA b hz).2 hb) fun b hb=>by have:=g.kx b hb;omega
 have sm1:cr Z W W1:=fun b hb=>cF b (hg.kx b hb);have gA1:=lift gA;have gU1:=lift gU;have gC1:=lift gC;have up:∀{X A:Nat→Prop},im X Z A W→im X Z A W1:=fun {X A} f b hb=>⟨by have:=(f b hb).1;omega,(f b hb).2⟩;have sl1:Sl a0.tmps Z ψ (hA m []).get W1:=⟨sl.n,sl.t4.less (fun _ h=>h) sm1 fun j hj=>⟨hj,rfl⟩,sl.t7.less (fun _ h=>h) sm1 fun j hj=>⟨hj,rfl⟩⟩;have fresh:∀{hp:Heap} {b:Nat},Good Z ψ hp.get W w0.heap.size E0→W.heap.size≤b→¬Z b∧¬Own ψ hp.get b:=fun {hp b} g hb=>⟨fun hz=>by have:=g.kx b hz;omega,fun ho=>by have:=g.bO ho;omega⟩;have fl0:∀b,D≤b→b<D+2→b<W1.heap.size∧¬Z b∧¬(Own ψ (hA m []).get b∨Own ψ (hU x d).get b):=fun b h1 h2 =>⟨by omega,(fresh gA (by omega)).1,fun h=>h.elim (fresh gA (by omega)).2 (fresh gU (by omega)).2⟩;have fl1:im (·=D+1) Z (fun b=>Own ψ (hA m []).get b∨Own ψ (hU x d).get b) W1:=fun b hb=>fl0 b (by omega) (by omega);have hlen:([]:List ab).length+(bm d x).length≤fk:=by grind [GZ,fk]
 have it:=YZ (k-1) wf hx gA1 gU1 (up fUA) (by rw[iW,hD];have:=s.wk.size;omega) sl1 (rx.less (fun _ h=>h) sm1 fun j hj=>⟨hj,rfl⟩) (rd.less (fun _ h=>h) sm1 fun j hj=>⟨hj,rfl⟩) hL1 fl1 hlen;refine⟨D+1,[XI D],W1,{ target:=.fn (.func 234) #[px,pd],args:=#[.func (.yield (D+1)) #[] #[]] },W1,234,#[.func (.yield (D+1)) #[] #[],px,pd],W1,?_,?_,fun _ _=>trivial,?_,fun h=>(by cases h),?_⟩
 ·rw[GU,hD];exact run_enterLoop_outer _ _ _ _ _
 ·rw[wx];have BB:a0.eval (.tmp 22)=.func (.func 234) #[] #[px,pd]:=hv;simp only[Go.resolve,BB];simp[go_sem]
 ·rfl
 refine it.mono ?_;rintro e W2 ⟨⟨v,rfl⟩,Z2,eU,R9⟩;refine⟨none,_,run_endLoop R9.hl (by simp[oO]),rfl,?_⟩;have tA:∀{X},im X Z (fun b=>Own ψ (hA m []).get b∨Own ψ (hU x d).get b) W1→im X Z2 (Own eU (hA (tell m (bm d x)) ([]++bm d x)).get) W2:=fun {X} f=>R9.tr.LQ f;rw[List.nil_append]at R9;have fC1:im (Own ψ (hC d out l).get) Z (fun b=>Own ψ (hA m []).get b∨Own ψ (hU x d).get b) W1:=fun b hb=>⟨(up fCA b hb).1,(up fCA b hb).2.1,fun h=>h.elim (fCA b hb).2.2 (fCU b hb).2.2⟩;have cD:∀b,Own ψ (hC d out l).get b→b<D:=fun b hb=>by grind
 have zD:∀b,Z b→b<D:=fun b hb=>by grind
 have gA2:=R9.gA;have gC2:Good Z2 ψ (hC d out l).get W2 w0.heap.size E0:=R9.tr.part (fun b hb h=>h.elim (gA.zA b hb).2 (gU.zA b hb).2) gC1 fC1 (fun b hb e=>by grind) gA2.kx;have apC:im (Own ψ (hC d out l).get) Z2 (Own eU (hA (tell m (bm d x)) (bm d x)).get) W2:=R9.tr.LQ fC1;have Wr:im (·=D+1) Z2 (Own eU (hA (tell m (bm d x)) (bm d x)).get) W2:=R9.tr.LQ fl1;have flC:im (·=D+1) Z2 (Own ψ (hC d out l).get) W2:=fun b hb=>⟨(Wr b hb).1,(Wr b hb).2.1,fun h=>by grind⟩;have gA3:=gA2.putObj (o':=.loop { oO .ready fn a0.tmps D with state:=.exhausted }) Wr;have gC3:=gC2.putObj (o':=.loop { oO .ready fn a0.tmps D with state:=.exhausted }) flC;obtain⟨W3,hW3⟩:∃W3,W3=W2.putObj (D+1) (.loop { oO .ready fn a0.tmps D with state:=.exhausted }):=⟨_,rfl⟩;rw[←hW3]at gA3 gC3 ⊢;have sm3:cr Z2 W2 W3:=by grind [ow]
 have aoV:W3.heap.size=W2.heap.size:=by rw[hW3];simp
 have dis:∀j,(hA (tell m (bm d x)) (bm d x)).get j≠none→(hC d out l).get j=none:=fun j hj=>I9 fun e=>by have:=EG hj;grind [EH]
 have apJ:∀q,Own eU (hA (tell m (bm d x)) (bm d x)).get q→¬Own ψ (hC d out l).get q:=fun q h1 h2=>(apC q h2).2.2 h1;have gJ:=gA3.join gC3 dis apJ (fun j ty cs hj=>by
  have e:=EG (show(hA (tell m (bm d x)) (bm d x)).get j≠none by rw[hj];simp);rcases e with rfl|rfl|rfl|rfl
  ·cases hj
   show aC _ [.bK 9000];simp only[aC,aJ];exact⟨fun k=>(by cases k),trivial⟩
  ·cases hj
  ·cases hj
   show aC _ [.bK 9016];simp only[aC,aJ];exact⟨fun k=>(by cases k),trivial⟩
  ·cases hj) (fun j ty cs hj=>by
  have e:=EH (show(hC d out l).get j≠none by rw[hj];simp);rcases e with rfl|rfl|rfl
  ·cases hj;exact ti d _
  ·cases hj
  ·cases hj)
 have amY:∀b,Own (rk (hA (tell m (bm d x)) (bm d x)).get eU ψ) (hA (tell m (bm d x)) (bm d x)++hC d out l).get b→Own eU (hA (tell m (bm d x)) (bm d x)).get b∨Own ψ (hC d out l).get b:=fun b ⟨j,h1,h2⟩=>by
  by_cases e:(hA (tell m (bm d x)) (bm d x)).get j=none
  ·rw[zZ e]at h1;rw[p7 e]at h2;exact .inr ⟨j,h1,h2⟩
  ·rw[p6 e]at h2;exact .inl ⟨j,e,h2⟩
 refine⟨a0,Z2,rk (hA (tell m (bm d x)) (bm d x)).get eU ψ,?_,?_,?_,?_,?_,?_,?_⟩
 ·show({ l6 (Ds.map XI) a0 with defers:=[XI D]++(l6 (Ds.map XI) a0).defers }:Act)=l6 ((W.heap.size::Ds).map XI) a0;unfold l6;rw[ht.defers,←hD];rfl
 ·have o1:∀q,(Own ψ (hA m []).get q∨Own ψ (hU x d).get q)→w0.heap.size≤q∨E0 q:=fun q h=>h.elim (gA.from q) (gU.from q);have w1:Wk Z0 w0 E0 Z W1:=s.wk.step (A:=fun q=>Own ψ (hA m []).get q∨Own ψ (hU x d).get q) (B:=fun q=>Own ψ (hA m []).get q∨Own ψ (hU x d).get q) (L:=E0) (Tr.cp (by rw[GU];rfl) (by rw[GU];rfl) (by rw[GU];rfl) (by omega) fun b hb _=>cF b hb) o1 fun _ h=>h.elim;have hDl:∀b,b=D+1→w0.heap.size≤b:=fun b hb=>by have:=s.wk.size;omega
  have w2:=w1.step R9.tr o1 hDl;rw[hW3];exact w2.step zX gA2.from hDl
 ·exact gJ
 ·have q1:∀{j},(j=20000∨j=20001)→(hA (tell m (bm d x)) (bm d x)).get j≠none:=fun {j} hj=>by rcases hj with rfl|rfl<;>(intro k;cases k)
  have rA:∀{j u},(j=20000∨j=20001)→az Z2 eU (hA (tell m (bm d x)) (bm d x)).get W2 (.ref j 0 0 0) u→az Z2 (rk (hA (tell m (bm d x)) (bm d x)).get eU ψ) (hA (tell m (bm d x)) (bm d x)++hC d out l).get W3 (.ref j 0 0 0) u:=fun {j u} hj hr =>I4 (fun _ h=>h) hr fun _=>⟨q1 hj,p6 (q1 hj)⟩;have cN:∀{j},(j=20004∨j=31000∨j=31001)→(hA m []++(hU x d++hC d out l)).get j≠none∧rk (hA (tell m (bm d x)) (bm d x)).get eU ψ j=ψ j:=fun {j} hj=>by
   have e1:(hC d out l).get j≠none:=by rcases hj with rfl|rfl|rfl<;>(intro k;cases k)
   obtain⟨o,ho⟩:=abK.1 e1;exact⟨by grind,p7 (nA (by omega) _ _)⟩
  refine fq (fun p hp=>?_) ht.size ht.defers;have hp:p∈[(12,AV.int .i64 n),(13,AV.int .i64 i),(4,AV.ref 20000 0 0 0),(7,AV.ref 20001 0 0 0),(1,AV.ref 20004 0 0 0),(3,AV.bK 31000),(11,AV.bK 31001)]:=hp;simp only[List.mem_cons,List.not_mem_nil,or_false]at hp;rcases hp with rfl|rfl|rfl|rfl|rfl|rfl|rfl
  ·exact ht.rep 12
  ·exact ht.rep 13
  ·exact rA (.inl rfl) R9.s.t4
  ·exact rA (.inr rfl) R9.s.t7
  ·exact I4 (fun b hb=>R9.tr.gy b hb) (ht.rep 1) fun _=>cN (.inl rfl)
  ·exact B2 (ht.rep 3) fun _=>cN (.inr (.inl rfl))
  ·exact B2 (ht.rep 11) fun _=>cN (.inr (.inr rfl))
 ·refine abP.2 ⟨fun hm=>?_,s.nd⟩;have:=(C3 _ hm).1;omega
 ·have keep:∀b,b<D+1→b<W1.heap.size→¬(Own ψ (hA m []).get b∨Own ψ (hU x d).get b)→W3.heap[b]? = W1.heap[b]? := fun b h1 h2 h3=>by rw[hW3,World.putObj_heap_other (by omega)];exact R9.tr.block b h2 h3 (by omega)
  intro q hq;rcases abz.1 hq with rfl|hq
  ·refine⟨?_,s.wk.size⟩;rw[←hD];exact(keep D (by omega) (by omega) (fl0 D (by omega) (by omega)).2.2).trans hD1
  ·have h0:=C3 q hq;refine⟨?_,(s.m q hq).2⟩;have own:∀{hp:Heap},(∀j o,hp.get j=some o→(hA m []++(hU x d++hC d out l)).get j=some o)→¬Own ψ hp.get q:=fun {hp} hs ⟨j,h1,h2⟩=>h0.2.2 ⟨j,(by obtain⟨o,ho⟩:=abK.1 h1;rw[hs _ _ ho];simp),h2⟩;rw[keep q (by omega) (by omega) (fun h=>h.elim (own sA) (own sU)),cF q h0.1];exact(s.m q hq).1
 ·intro q hq;have base:q<W1.heap.size∧¬Z q∧¬(Own ψ (hA m []).get q∨Own ψ (hU x d).get q)∧¬Own ψ (hC d out l).get q:=by
   rcases abz.1 hq with rfl|hq
   ·grind
   ·have h0:=C3 q hq;have own:∀{hp:Heap},(∀j o,hp.get j=some o→(hA m []++(hU x d++hC d out l)).get j=some o)→¬Own ψ hp.get q:=fun {hp} hs ⟨j,h1,h2⟩=>h0.2.2 ⟨j,(by obtain⟨o,ho⟩:=abK.1 h1;rw[hs _ _ ho];simp),h2⟩;exact⟨by omega,h0.2.1,fun h=>h.elim (own sA) (own sU),own sC⟩
  have h2:=R9.tr.LQ (X:=(·=q)) (fun b hb=>by grind) q rfl;exact⟨by omega,h2.2.1,fun h=>(amY q h).elim h2.2.2 base.2.2.2⟩
end Go.Vs
namespace Go.Vs
open Go.Proofs Go.Cy
variable {Z Z' Z0:Nat→Prop} {ψ ψ' ψ0 vz BZ:Nat→Value} {h h':Hp} {w w' w0:World} {B0:Nat} {O N:Nat→Prop}
theorem z5{β α:Type}[DecidableEq β]{x z:β}{v:α}:∀{es:List (β×α)} {i:Nat},(es.findIdx? fun e=>decide (e.1=x))=some i→fz z (es.set i (x,v))=if x=z then some v else fz z es
 |[],i,h=>by simp at h
 |e::r,i,h=>by
  rw[List.findIdx?_cons]at h;by_cases he:e.1=x
  ·rw[if_pos (decide_eq_true he)]at h
   cases h
   rw[List.set_cons_zero,fz,fz];show(if x=z then some v else fz z r)=_;rw[he];by_cases k:x=z
   ·rw[if_pos k,if_pos k]
   ·rw[if_neg k,if_neg k,if_neg k]
  ·rw[if_neg (by simpa using he)]at h;obtain⟨j,hj,rfl⟩:=ac9.1 h;have ih:=z5 (z:=z) (v:=v) hj;rw[List.set_cons_succ,fz,fz,ih];by_cases k:e.1=z
   ·rw[if_pos k,if_neg (fun q=>he (k.trans q.symm)),if_pos k]
   ·rw[if_neg k,if_neg k]
theorem z6{β α:Type}[DecidableEq β]{x z:β}{v:α}:∀{es:List (β×α)},(es.findIdx? fun e=>decide (e.1=x))=none→fz z (es++[(x,v)])=if x=z then some v else fz z es
 |[],_=>rfl
 |e::r,h=>by
  rw[List.findIdx?_eq_none_iff]at h;have he:e.1≠x:=by simp_all
  have ih:=z6 (z:=z) (v:=v) (es:=r) (List.findIdx?_eq_none_iff.2 fun q hq=>h q (abt _ hq));rw[List.cons_append,fz,fz,ih]
  grind
theorem Sa{α:Type}(x z:ab)(v:α)(es:List (ab×α)):fz z (jK bg x v es)=if x=z then some v else fz z es:=by
 have e:=EC x es;unfold jK
 split
 ·rename_i i hi;exact z5 (e.symm.trans hi)
 ·rename_i hi;exact z6 (e.symm.trans hi)
def Hs(m:Tm)(T:List ab):Prop:=∀z,(fz z m).getD false=decide (z∈T)
theorem Hs.tell{m:Tm}{T:List ab}(h:Hs m T)(l:List ab):Hs (tell m l) (T++l):=by
 induction l generalizing m T with
 |nil=>rw[List.append_nil];exact h
 |cons y r ih =>
  have h1:Hs (qb m y) (T++[y]):=fun z=>by
   unfold qb;rw[Sa];by_cases k:y=z
   ·subst k;simp
   ·rw[if_neg k,h z]
    grind
  have:=ih h1;rw[List.append_assoc]at this;exact this
theorem Wv{m:Tm}{T:List ab}(h:Hs m T)(y:ab):(fJ bg (y.1,y.2) m).getD false=decide (y∈T):=by have:=NK y m;show(fJ bg y m).getD false=_;rw[this];exact h y
abbrev x0(n i:Int)(m:Tm)(d:ak)(out:List (List ab))(l:List ab):S0.T:=((n,(i,())),(((m,()),((d,()),())),(out,(l,()))))
theorem PB{Ds:List Nat}{sh:Shape}{x:sh.T}{a:Act}{W:World}(s:Ms Z0 w0 Ds sh x a W){i:Nat}{b:Bool}(e:look (aw sh x).tmps i=.bool b):a.eval (.tmp i)=.bool b:=by obtain⟨a0,Z,ψ,s⟩:=s;have:=s.t.rep i;rw[e]at this;rw[s.e,wx];exact this
theorem yj{n:Nat}{fn:Func}{tmps:Array Value}{R:Ending→World→Prop}:∀(Ds:List Nat) (W:World),Ds.Nodup→(∀D,D∈Ds→W.heap[D]? = some (.deferred (some []))) →(∀W',W'.os=W.os→W'.tape=W.tape→W'.output=W.output→W'.heap.size=W.heap.size→(∀b,b∉Ds→W'.heap[b]? = W.heap[b]?)→∃v,(results fn tmps).run Tryz.prog W'=.ok v W'∧R (.returned v) W') → LeavesInM (FW none) n Tryz.prog fn tmps R (Ds.map XI) .returning W
 |[],W,_,_,h=>h W rfl rfl rfl rfl fun _ _=>rfl
 |D::Ds,W,hn,hd,h=>by
  obtain⟨h1,h2⟩:=abP.1 hn;refine⟨by simp,.inl ⟨D,_,rfl,run_takeDeferred (hd D abV),?_⟩⟩;refine yj Ds _ h2 (fun E hE=>?_) fun W' e1 e2 e3 e4 e5=>?_
  ·grind [World.putObj_heap_other,List.mem_cons_of_mem]
  ·refine h W' e1 e2 e3 (e4.trans (by simp)) fun b hb=>?_
   grind [List.mem_cons_of_mem,World.putObj_heap_other,List.mem_cons_self]
abbrev SN:Shape:=⟨[(0,dG)],[],[],[]⟩
theorem Sb{d:ak}(wf:Wf d):Gn Tryz.prog 207 AP ((d,()),()) ((bV d,()),()):=by
 intro Z ψ0 w lk hg hr;have hr:au Z ψ0 (Heap.get []) w [cc dG d] lk:=hr;have hg:Good Z ψ0 (Heap.get []) w w.heap.size (Own ψ0 (Heap.get [])):=hg;have EJ:∀b,¬Own ψ0 (Heap.get []) b:=fun b ⟨i,h1,_⟩=>h1 rfl;simp only[au]at hr;obtain⟨u0,_,rfl,hu,rfl⟩:=hr;refine yi (r:=none) (n:=5) (callsIn_of_wp_marks Tryz.func207 YW trivial ?_ rfl);obtain⟨Fx,Py⟩:∃t:Array Value,t=#[u0]++Array.replicate (Tryz.f207.ntmps-(#[u0]:Array Value).size) undef:=⟨_,rfl⟩;show Code.wpIn _ _ _ _ _ { tmps:=#[u0]++Array.replicate (Tryz.f207.ntmps-(#[u0]:Array Value).size) undef,defers:=[] } w;rw[←Py];have hs0:Fx.size=36:=by simp_all
 have e0:Fx.getD 0 undef=u0:=by rw[Py];simp
 have ms0:MsX Z w [] SN ((d,()),((),())) { tmps:=Fx,defers:=[] } w { tmps:=Fx,defers:=[] } Z ψ0:=by refine⟨rfl,Wk.start Z w E0,hg.Wn fun b h _=>(EJ b h).elim,fq (fun p hp=>?_) hs0 rfl,List.nodup_nil,fun D hD=>(by cases hD),fun D hD=>(by cases hD)⟩;have hp:p∈[(0,cc dG d)]:=hp;simp only[List.mem_cons,List.not_mem_nil,or_false]at hp;subst hp;show az _ _ _ _ _ (Fx.getD 0 undef);rw[e0];exact hu
 have amZ:F1 223 xl ((d,()),())=some ((fi d.2,()),()):=Wo rfl (agC hg0 d wf.sm);have hn:=(amG F1 d).trans (aa amZ rfl);refine wpIn_seq (wpIn_mono (I7 hn 5 ms0) ?_);rintro e a1 W1 ⟨rfl,a2,rfl,_,jq,Z1,oR,q1,YY,t1⟩;refine wpIn_seq (wpIn_mono (eE rl q1 none 5 _ YY t1) ?_);rintro e a3 W3 ⟨rfl,a4,rfl,_,st2,Z2,eU,q2,EZ,t2⟩;refine wpIn_seq (wpIn_mono (eE rl q2 none 5 _ EZ t2) ?_);rintro e a5 W5 ⟨rfl,a6,rfl,_,st3,Z3,Tw,q3,Y0,t3⟩;refine wpIn_seq (wpIn_seq (wpIn_mono (eE rl q3 none 5 _ Y0 t3) ?_));rintro e a7 W7 ⟨rfl,a8,rfl,_,st4,Z4,CR,q4,ok4,t4⟩;have ms:=NU ms0 q4 ok4 t4;clear q1 q2 q3 q4 YY EZ Y0 ok4 t1 t2 t3 t4;obtain⟨l,hl⟩:∃l,l=fi d.2:=⟨_,rfl⟩;rw[←hl]at ms;have hll:l.length≤80:=by rw[hl,nr];have:=wf.ne;omega
 have jo:∀y,y∈l→y∈an d.1:=fun y hy=>by rw[hl,ml]at hy;exact wf.pd.mem_iff.2 hy
 refine wpIn_block ?_;refine I6 (fun k a W=>∃(i:Nat) (m:Tm) (out:List (List ab)) (T:List ab) (Ds:List Nat),i≤l.length∧k=l.length-i∧out.length≤i∧Ms Z w Ds S0 (x0 ((l.length:Nat):Int) (i:Int) m d out l) a W∧jc d (l.drop i) out T=bV d∧Hs m T) (k:=l.length) ⟨0,[],[],[],[],adl _,rfl,acb _,ms,by rw[List.drop_zero,hl];rfl,fun z=>by simp[fz]⟩ ?_;rintro k a W ⟨i,m,out,T,Ds,hi,rfl,ho,ms,Mj,ht⟩;refine wpIn_seq (wpIn_mono (EF (n4 F1 ((l.length:Nat):Int) (i:Int) _) 5 ms) ?_);rintro e a1 W1 ⟨rfl,ms1⟩;have ZI:=PB ms1 (i:=14) rfl;by_cases aO:i<l.length
 case neg =>
  have e:i=l.length:=by omega
  have ef:decide ((i:Int)<((l.length:Nat):Int))=false:=decide_eq_false (by omega);rw[ef]at ZI;refine wpIn_seq (wpIn_cond_false ZI (wpIn_exit ?_));show Code.wpIn _ _ _ _ _ _ _;refine wpIn_seq (wpIn_mono (EF (n14 F1 _ _ _ m d out l) 5 ms1) ?_);rintro e a2 W2 ⟨rfl,ms2⟩;refine wpIn_ret ?_;obtain⟨a0,Z2,eU,s⟩:=ms2;rw[e,List.drop_eq_nil_of_le (Nat.le_refl _)]at Mj;have Mj:out=bV d:=Mj;rw[s.e];show LeavesInM _ _ _ _ a0.tmps _ (a0.defers++Ds.map XI) .returning W2;rw[s.t.defers,List.nil_append];refine yj Ds W2 s.nd (fun D hD=>(s.m D hD).1) fun W3 e1 e2 e3 e4 e5=>?_;have xg:Tryz.f207.results=#[.tmp 2]:=by kernel_rfl
  have nZ:∀b,Z2 b∨Own eU (aw SE ((),((),(out,())))).heap.get b→b∉Ds:=fun b hb hD=>by have:=s.fr b hD;exact hb.elim this.2.1 this.2.2
  have g3:Good Z2 eU (aw SE ((),((),(out,())))).heap.get W3 w.heap.size E0:=s.g.same (fun _ h=>h) (fun b hb=>e5 b (nZ b hb)) (fun b hb hz=>(s.g.zA b hz).2 hb) fun b hb=>by rw[e4];exact s.g.kx b hb
  have k3:Wk Z w E0 Z2 W3:=⟨s.wk.gy,s.wk.fb,e1.trans s.wk.os,e2.trans s.wk.tape,e3.trans s.wk.output,by rw[e4];exact s.wk.size,fun b hb ho=>by rw[e5 b (fun hD=>by have:=(s.m b hD).2;omega)];exact s.wk.block b hb ho⟩;refine⟨_,results_tmp xg _ _ _,_,Z2,eU,rfl,k3.gy,fun b hb=>?_,⟨k3.os,k3.tape,k3.output,k3.size,fun b hb _=>k3.block b hb fun h=>h⟩,?_,fun i hi=>(by cases hi),?_⟩
  ·rcases k3.fb b hb with h|h|h
   ·exact .inl h
   ·exact h.elim
   omega
  ·rw[Mj]at g3;exact g3.Wn fun b _ hb=>hb.elim .inl fun h=>h.elim
  ·have r2:=s.t.rep 2;have:az Z2 eU (aw SE ((),((),(out,())))).heap.get W2 (.bK 3000) (a0.tmps.getD 2 undef):=r2;rw[Mj]at this;simp only[az]at this;show az Z2 eU _ W3 (.bK 3000) _;simp only[az];exact this
 have et:decide ((i:Int)<((l.length:Nat):Int))=true:=aT aO;rw[et]at ZI;refine wpIn_seq (wpIn_cond_true ZI (wpIn_skip ?_));refine wpIn_seq (wpIn_block (wpIn_seq ?_));have hy:=jo l[i] (ac8 aO);have h5:=(n5 F1 (decide ((i:Int)<((l.length:Nat):Int))) ((l.length:Nat):Int) (i:Int) m d out l).trans (ae (cK (fG i) (aT aO)) (aa (a:=l[i]) (by simp_all) rfl));refine wpIn_mono (PA h5 5 ms1) ?_;rintro e a2 W2 ⟨rfl,hc⟩;refine wpIn_seq (wpIn_seq (wpIn_mono hc ?_));rintro e a3 W3 ⟨rfl,ms3⟩;have h19:=PB ms3 (i:=19) rfl;rw[Wv ht]at h19;have Po:l.drop i=l[i]::l.drop (i+1):=adi aO;rw[Po,jc]at Mj;by_cases hT:l[i]∈T
 ·rw[if_pos hT]at Mj;refine wpIn_cond_true (h19.trans (congrArg Value.bool (decide_eq_true hT))) (wpIn_exit ?_);show Code.wpIn _ _ _ _ _ _ _;refine wpIn_mono (EF (amH F1 _ _ _ m d l[i] out l) 5 ms3) ?_;rintro e a4 W4 ⟨rfl,ms4⟩;have ew:=aD aO (by omega);rw[ew]at ms4;exact⟨l.length-(i+1),by omega,i+1,m,out,T,Ds,by omega,rfl,by omega,ms4,Mj,ht⟩
 rw[if_neg hT]at Mj;refine wpIn_cond_false (h19.trans (congrArg Value.bool (decide_eq_false hT))) (wpIn_skip ?_);refine wpIn_seq (wpIn_mono (PA (n7 F1 _ _ _ m d l[i] out l) 5 ms3) ?_);rintro e a4 W4 ⟨rfl,hc⟩;refine wpIn_seq (wpIn_seq (wpIn_mono hc ?_));rintro e a5 W5 ⟨rfl,ms5⟩;refine wpIn_block (wpIn_mono (Wu 5 wf hy ms5) ?_);rintro e a6 W6 ⟨rfl,ms6⟩;have Tj:=(n12 F1 ((l.length:Nat):Int) (i:Int) (tell m (bm d l[i])) (bm d l[i]) d out l).trans (ae (fits (by omega)) rfl);refine wpIn_mono (EF Tj 5 ms6) ?_;rintro e a7 W7 ⟨rfl,ms7⟩;refine wpIn_mono (EF (n13 F1 _ _ _) 5 ms7) ?_;rintro e a8 W8 ⟨rfl,ms8⟩;have ew:=aD aO (by omega);rw[ew]at ms8;exact⟨l.length-(i+1),by omega,i+1,_,_,_,_,by omega,rfl,by simp;omega,ms8,Mj,ht.tell _⟩
end Go.Vs
