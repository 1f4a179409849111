/- The walk of the function that -/
import Derived.Test.YtoleelddkocpkaaGreatFacesA
set_option linter.unusedSimpArgs false
set_option linter.unusedVariables false
namespace Go.Vs
open Go.Proofs Go.Cy
variable {Z Z' Z0:Nat→Prop} {ψ ψ' ψ0 vp BV:Nat→Value} {h h':Hp} {w w' w0:World} {B0:Nat} {O N:Nat→Prop}
theorem Wq{p:Nat→Prop}(h:∃n,p n):∃n,p n∧∀m,m<n→¬p m:=by
 obtain⟨n,hn⟩:=h
 induction n using Nat.strongRecOn with
 |_ n ih =>
  grind
open Classical in
noncomputable def least(p:Nat→Prop):Nat:=if h:∃n,p n then Classical.choose (Wq h) else 0
theorem EC{p:Nat→Prop}(h:∃n,p n):p (least p)∧∀m,p m→least p≤m:=by
 unfold least
 grind
theorem Jf{F:Fence}{n:Nat}{P:Program}{c:Code}{Q:Exit→Act→World→Prop}(I:Nat→Act→World→Prop){k:Nat}{a:Act}{w:World}(h0:I k a w) (round:∀k a w,I k a w→c.wpIn F n P (Exit.then (fun a' w'=>∃k',k'<k∧I k' a' w') Q) a w):(Code.loop c).wpIn F n P Q a w:=by
 refine wpIn_loop (fun a w=>∃k,I k a w) (fun a w=>least fun k=>I k a w) ⟨k,h0⟩ fun a w hI=>?_;obtain⟨h1,_⟩:=EC hI;refine wpIn_mono (round _ a w h1) fun e a' w' hq=>?_
 cases e with
 |normal=>obtain⟨k',h2,h3⟩:=hq;exact⟨⟨k',h3⟩,Nat.lt_of_le_of_lt ((EC ⟨k',h3⟩).2 k' h3) h2⟩
 |_=>exact hq
abbrev hU(x:ae)(d:an):Heap:=(az U0 ((),(((x,()),((d,()),())),()))).heap
abbrev hB(x:ae)(d:an)(y:ae):Heap:=(az U1 ((true,()),(((x,()),((d,()),((y,()),()))),()))).heap
def pU(m:Tm)(y:ae):Tm:=jF bm y true m
def tell(m:Tm)(l:List ae):Tm:=l.foldl pU m
theorem R4(m:Tm)(l:List ae)(y:ae):tell m (l++[y])=pU (tell m l) y:=by simp[tell]
structure Bt(W1:World)(Z1:Nat→Prop)(OA OB:Nat→Prop)(B0:Nat)(O:Nat→Prop)(l:Nat)(rc:Loop)(tm:Array Value)(m:Tm)(f:List ae)(x:ae)(d:an)(y:ae)(Z:Nat→Prop)(vp BV:Nat→Value)(a:Act)(W:World):Prop where
 gA:Good Z vp (hA m f).get W B0 O
 gB:Good Z BV (hB x d y).get W B0 O
 ap:ig (Own BV (hB x d y).get) Z (Own vp (hA m f).get) W
 s:Sl tm Z vp (hA m f).get W
 hl:W.heap[l]? = some (.loop rc)
 fl:ig (·=l) Z (fun b=>Own vp (hA m f).get b∨Own BV (hB x d y).get b) W
 tr:Tr (·=l) Z1 (fun b=>OA b∨OB b) W1 Z (fun b=>Own vp (hA m f).get b∨Own BV (hB x d y).get b) W
 a0:a.tmps.getD 0 undef=.func (.yield l) #[] #[]
 b0:B0≤W.heap.size
theorem acj{W:World}{x y:ae}{d:an}{v:Value}(g:Good Z BV (hB x d y).get W B0 O)(hr:aC Z BV (hB x d y).get W (.ref 20004 0 0 0) v):∃V,(Instr.loadAt 40 v).run Tryz.prog W=.ok V W∧∀ψ h,aC Z ψ h W (cj bm y) V:=by
 have hb:(hB x d y).get 20004=some (.box 40 (enc bm y)):=rfl;obtain⟨q,vs,e1,e2,e3,e4⟩:=g.box _ _ _ hb;simp only[aC]at hr;obtain⟨ad,rfl,h2⟩:=hr;have h3:=h2 (by rw[hb];simp);rw[e1]at h3;have h3:ad=⟨q,0,none⟩:=h3;subst h3;obtain⟨V,h4,h5⟩:=kh (P:=Tryz.prog) (t:=40) (a:=⟨q,0,none⟩) (x:=cj bm y) e3 (fun j u hu=>by
  rw[cF,Nat.zero_add]
  grind [World.cell?]) (by kernel_rfl)
 exact⟨V,h4,fun ψ h=>h5.move (p:=fun _=>False) (fun _ h=>h) (cw.refl _ _) (fun _ k=>k.elim) (oY _ bm y)⟩
structure Itr(W1:World)(Z1:Nat→Prop)(OA OB:Nat→Prop)(B0:Nat)(O:Nat→Prop)(l:Nat)(rc:Loop)(tm:Array Value)(m:Tm)(f:List ae)(Z:Nat→Prop)(vp:Nat→Value)(W:World):Prop where
 gA:Good Z vp (hA m f).get W B0 O
 s:Sl tm Z vp (hA m f).get W
 hl:W.heap[l]? = some (.loop rc)
 tr:Tr (·=l) Z1 (fun b=>OA b∨OB b) W1 Z (Own vp (hA m f).get) W
theorem Y1(n:Nat){W1:World}{m:Tm}{f:List ae}{x:ae}{d:an}{l D:Nat}{fn:FuncId}{tm:Array Value}{px pd:Value}(wf:Wf d)(hx:x∈aq d.1) (gA:Good Z vp (hA m f).get W1 B0 O) (gB:Good Z BV (hU x d).get W1 B0 O) (ap:ig (Own BV (hU x d).get) Z (Own vp (hA m f).get) W1) (hB0:B0≤W1.heap.size) (s:Sl tm Z vp (hA m f).get W1) (rx:aC Z BV (hU x d).get W1 (.ref 20002 0 0 0) px) (rd:aC Z BV (hU x d).get W1 (.ref 20003 0 0 0) pd) (hl:W1.heap[l]? = some (.loop (oy .ready fn tm D))) (fl:ig (·=l) Z (fun b=>Own vp (hA m f).get b∨Own BV (hU x d).get b) W1) (hf:f.length+(bq d x).length≤eY) :
  CallsIn (FW none) n Tryz.prog 234 #[.func (.yield l) #[] #[],px,pd] W1 fun e W'=>(∃v,e=.returned v)∧∃Z' ψ',Itr W1 Z (Own vp (hA m f).get) (Own BV (hU x d).get) B0 O l (oy .ready fn tm D) tm (tell m (bq d x)) (f++bq d x) Z' ψ' W':=by
 obtain⟨r0,htr,Fe,bz,hcy⟩:=Ep wf hx;refine callsIn_of_wp Tryz.func234 YZ trivial ?_ rfl;obtain⟨FC,Ps⟩:∃t:Array Value,t=#[.func (.yield l) #[] #[],px,pd]++Array.replicate (Tryz.f234.ntmps-(#[.func (.yield l) #[] #[],px,pd]:Array Value).size) undef:=⟨_,rfl⟩;rw[←Ps];have hs0:FC.size=23:=by simp_all
 have e0:FC.getD 0 undef=.func (.yield l) #[] #[]:=by rw[Ps];simp
 have e1:FC.getD 1 undef=px:=by rw[Ps];simp
 have e2:FC.getD 2 undef=pd:=by rw[Ps];simp
 have t0:cT Z BV (hU x d).get W1 23 (look (az U0 ((),(((x,()),((d,()),())),()))).tmps) { tmps:=FC,defers:=[] }:=by
  refine fa (fun p hp=>?_) hs0 rfl;have hp:p∈[(1,AV.ref 20002 0 0 0),(2,AV.ref 20003 0 0 0)]:=hp
  grind
 have zA:∀b,Z b→¬Own vp (hA m f).get b:=fun b hb=>(gA.zA b hb).2;have zl:∀b,Z b→¬b=l:=fun b hb e=>(fl l rfl).2.1 (e▸hb);refine wpIn_seq ?_;refine wpIn_mono (dV qY (u0 F1 x d) none n [] (Good.start gB) t0) ?_;rintro e a1 W2 ⟨rfl,a2,rfl,k1,jl,Z1,oC,acf,Y0,t1⟩;obtain⟨Z2,eE,E3,t2⟩:=gL acf Y0 t1;have gB2:Good Z2 eE (hB x d x).get W2 B0 O:=E3.NJ gB hB0;have tr2:Tr (fun _=>False) Z (Own BV (hU x d).get) W1 Z2 (Own eE (hB x d x).get) W2:=E3.tr;have fA:ig (Own vp (hA m f).get) Z (Own BV (hU x d).get) W1:=fun b hb=>⟨gA.bP hb,fun hz=>zA b hz hb,fun h2=>(ap b h2).2.2 hb⟩;have gA2:Good Z2 vp (hA m f).get W2 B0 O:=tr2.part (fun b hb=>(gB.zA b hb).2) gA fA (fun _ _ h=>h) gB2.kg;obtain⟨fA2,_⟩:=tr2.free fA fun _ _ h=>h;have ap2:ig (Own eE (hB x d x).get) Z2 (Own vp (hA m f).get) W2:=fun b hb=>⟨gB2.bP hb,fun hz=>(gB2.zA b hz).2 hb,fun h2=>(fA2 b h2).2.2 hb⟩;have sm2:cw Z W1 W2:=tr2.same gB.zA fun _ _ h=>h;have s2:Sl tm Z2 vp (hA m f).get W2:=⟨s.n,s.t4.less E3.gk sm2 fun i hi=>⟨hi,rfl⟩,s.t7.less E3.gk sm2 fun i hi=>⟨hi,rfl⟩⟩;obtain⟨Wo,Ah⟩:=(tr2.beside (Own vp (hA m f).get)).free (X:=(·=l)) (fun b hb=>⟨(fl b hb).1,(fl b hb).2.1,fun h=>(fl b hb).2.2 h.symm⟩) fun _ _ h=>h;rw[dM];refine wpIn_block ?_;have start:Bt W1 Z (Own vp (hA m f).get) (Own BV (hU x d).get) B0 O l (oy .ready fn tm D) tm m f x d x Z2 vp eE a2 W2 :=⟨gA2,gB2,ap2,s2,(Ah l rfl).trans hl,fun b hb=>⟨(Wo b hb).1,(Wo b hb).2.1,fun h=>(Wo b hb).2.2 h.symm⟩,(tr2.beside (Own vp (hA m f).get)).less (fun b h=>h.symm) (fun b h=>h.symm) (fun _ h=>h.elim),(k1 0 (by simp)).trans e0,acY hB0 tr2.size⟩;refine Jf (fun k a W=>∃pre y rest Z' amH agH b,bq d x=pre++y::rest∧k=rest.length∧Bt W1 Z (Own vp (hA m f).get) (Own BV (hU x d).get) B0 O l (oy .ready fn tm D) tm (tell m pre) (f++pre) x d y Z' amH agH a W ∧ cT Z' agH (hB x d y).get W 23 (look (az U1 ((b,()),(((x,()),((d,()),((y,()),()))),()))).tmps) a) (k:=r0.length) ⟨[],x,r0,Z2,vp,eE,true,htr,rfl,by rw[List.append_nil];exact start,t2⟩ ?_;rintro k a W ⟨pre,y,rest,Z3,Th,CO,bb,wm,rfl,bt,t3⟩;have hy:y∈aq d.1:=bz y (by grind);have r4:aC Z3 CO (hB x d y).get W (.ref 20004 0 0 0) (a.tmps.getD 4 undef):=t3.rep 4;obtain⟨V,hV,rV⟩:=acj bt.gB r4;have hlen:(f++pre).length+1≤eY:=by
  grind
 have rin:=Wn (n-1) bt.gA bt.b0 bt.s (rV Th _) hlen bt.hl (fun b hb=>⟨(bt.fl b hb).1,(bt.fl b hb).2.1,fun h=>(bt.fl b hb).2.2 (.inl h)⟩);have Fu:(Instr.yield l #[V]).run Tryz.prog W=.ok (.round l fn (tm.setIfInBounds 23 V) (r6 9) bd) W:=by have:=run_yield (P:=Tryz.prog) (args:=#[V]) bt.hl rfl;simp_all [oy]
 refine wpIn_seq (wpIn_seq ?_);refine Wp n t3.size bt.a0 hV Fu (rin.mono ?_);rintro e W4 ⟨rfl,Z4,Pu,LV⟩;refine⟨.bool true,rfl,?_⟩;obtain⟨b,hb⟩:∃b,b=((a.put (some 7) (.func (.yield l) #[] #[])).put (some 8) V).put (some 9) (.bool true):=⟨_,rfl⟩;rw[←hb];have other:∀i,i≠7→i≠8→i≠9→b.tmps.getD i undef=a.tmps.getD i undef:=fun i h7 h8 h9=>by rw[hb,c9 _ _ (fun j hj=>by simp_all),c9 _ _ (fun j hj=>by simp_all),c9 _ _ (fun j hj=>by simp_all)]
 have bsz:b.tmps.size=23:=by rw[hb,cI,cI,cI];exact t3.size
 have bdf:b.defers=[]:=by rw[hb,put_defers,put_defers,put_defers];exact t3.defers
 have b9:b.eval (.tmp 9)=.bool true:=by
  have:((a.put (some 7) (.func (.yield l) #[] #[])).put (some 8) V).tmps.size=23:=by grind [cI]
  rw[hb];show(((a.put (some 7) (.func (.yield l) #[] #[])).put (some 8) V).put (some 9) (.bool true)).tmps.getD 9 undef=_;rw[iB (by omega),if_pos rfl]
 refine wpIn_cond_true b9 (wpIn_skip (wpIn_block (wpIn_seq ?_)));have z3l:∀q,Z3 q→¬q=l:=fun q hq e=>(bt.fl l rfl).2.1 (e▸hq);have bl:∀q,Own CO (hB x d y).get q→¬q=l:=fun q hq e=>(bt.fl l rfl).2.2 (.inr (e▸hq));have gB4:Good Z4 CO (hB x d y).get W4 B0 O:=LV.tr.part (fun q hq=>(bt.gA.zA q hq).2) bt.gB bt.ap (fun q hq=>hq.elim (z3l q) (bl q)) LV.g.kg;obtain⟨ap4,_⟩:=LV.tr.free bt.ap bl;have sm4:cw Z3 W W4:=LV.tr.same bt.gA.zA z3l;have t4:cT Z4 CO (hB x d y).get W4 23 (look (az U1 ((bb,()),(((x,()),((d,()),((y,()),()))),()))).tmps) b:=by
  have up:∀i v,i≠7→i≠8→i≠9→look (az U1 ((bb,()),(((x,()),((d,()),((y,()),()))),()))).tmps i=v→aC Z4 CO (hB x d y).get W4 v (b.tmps.getD i undef):=fun i v h7 h8 h9 e=>by rw[other i h7 h8 h9,←e];exact(t3.rep i).less LV.tr.gk sm4 fun j hj=>⟨hj,rfl⟩
  refine fa (fun p hp=>?_) bsz bdf;have hp:p∈[(5,AV.bool bb),(1,AV.ref 20002 0 0 0),(2,AV.ref 20003 0 0 0),(4,AV.ref 20004 0 0 0)]:=hp;simp only[List.mem_cons,List.not_mem_nil,or_false]at hp;rcases hp with rfl|rfl|rfl|rfl
  ·exact up 5 _ (by decide) (by decide) (by decide) rfl
  ·exact up 1 _ (by decide) (by decide) (by decide) rfl
  ·exact up 2 _ (by decide) (by decide) (by decide) rfl
  ·exact up 4 _ (by decide) (by decide) (by decide) rfl
 have hB4:B0≤W4.heap.size:=acY bt.b0 LV.tr.size;have amI:F1 235 GL ((d,((y.1,y.2),())),())=some ((ph d y,(true,())),()):=by have:=Wl rfl (agt hg0 d y wf);rw[LF wf hy]at this;exact this
 have hn:=(u2 F1 bb x y d).trans (aa amI rfl);have run:=dV qY hn none n [] (Good.start gB4) t4;rw[dM]at run;refine wpIn_mono run ?_;clear run;rintro e a5 W5 ⟨rfl,a6,rfl,k6,st6,Z6,ψ6,ach,ok6,t6⟩;refine wpIn_seq ?_;refine wpIn_mono (dV qY ach none n [] ok6 t6) ?_;rintro e a7 W7 ⟨rfl,a8,rfl,k8,st8,Z8,ψ8,amJ,ok8,t8⟩;obtain⟨Z9,ψ9,ok9,t9⟩:=gL amJ ok8 t8;rw[dM];have gB9:Good Z9 ψ9 (hB x d (ph d y)).get W7 B0 O:=ok9.NJ gB4 hB4;have tr9:Tr (fun _=>False) Z4 (Own CO (hB x d y).get) W4 Z9 (Own ψ9 (hB x d (ph d y)).get) W7:=ok9.tr;have fA4:ig (Own Pu (hA (pU (tell m pre) y) (f++pre++[y])).get) Z4 (Own CO (hB x d y).get) W4:=fun q hq=>⟨LV.g.bP hq,fun hz=>(LV.g.zA q hz).2 hq,fun h2=>(ap4 q h2).2.2 hq⟩;have gA9:Good Z9 Pu (hA (pU (tell m pre) y) (f++pre++[y])).get W7 B0 O:=tr9.part (fun q hq=>(gB4.zA q hq).2) LV.g fA4 (fun _ _ h=>h) gB9.kg;obtain⟨fA9,_⟩:=tr9.free fA4 fun _ _ h=>h;have ap9:ig (Own ψ9 (hB x d (ph d y)).get) Z9 (Own Pu (hA (pU (tell m pre) y) (f++pre++[y])).get) W7:=fun q hq=>⟨gB9.bP hq,fun hz=>(gB9.zA q hz).2 hq,fun h2=>(fA9 q h2).2.2 hq⟩;have sm9:cw Z4 W4 W7:=tr9.same gB4.zA fun _ _ h=>h;have s9:Sl tm Z9 Pu (hA (pU (tell m pre) y) (f++pre++[y])).get W7:=⟨LV.s.n,LV.s.t4.less ok9.gk sm9 fun i hi=>⟨hi,rfl⟩,LV.s.t7.less ok9.gk sm9 fun i hi=>⟨hi,rfl⟩⟩;have trB:Tr (·=l) Z1 (fun q=>Own vp (hA m f).get q∨Own BV (hU x d).get q) W1 Z1 (fun q=>Own vp (hA m f).get q∨Own BV (hU x d).get q) W1:=Tr.refl;have tr4:Tr (·=l) Z (fun q=>Own vp (hA m f).get q∨Own BV (hU x d).get q) W1 Z9 (fun q=>Own Pu (hA (pU (tell m pre) y) (f++pre++[y])).get q∨Own ψ9 (hB x d (ph d y)).get q) W7 :=(bt.tr.trans (LV.tr.beside _)).trans ((tr9.beside (Own Pu (hA (pU (tell m pre) y) (f++pre++[y])).get)).less (fun q h=>h.symm) (fun q h=>h.symm) (fun _ h=>h.elim));have fl4:ig (·=l) Z4 (fun q=>Own Pu (hA (pU (tell m pre) y) (f++pre++[y])).get q∨Own CO (hB x d y).get q) W4:=fun q hq=>by
  have hq:q=l:=hq;subst hq;have h0:=bt.fl q rfl;refine⟨ac6 h0.1 LV.tr.size,fun hz=>?_,fun ho=>?_⟩
  ·rcases LV.tr.eP q hz with e|e|e
   ·exact h0.2.1 e
   ·simp_all
   omega
  ·rcases ho with ho|ho
   ·rcases LV.tr.own q ho with e|e
    ·simp_all
    omega
   simp_all
 obtain⟨fl9,hl9⟩:=(tr9.beside (Own Pu (hA (pU (tell m pre) y) (f++pre++[y])).get)).free (X:=(·=l)) (fun q hq=>⟨(fl4 q hq).1,(fl4 q hq).2.1,fun h=>(fl4 q hq).2.2 h.symm⟩) fun _ _ h=>h;have a8z:a8.tmps.getD 0 undef=.func (.yield l) #[] #[]:=(k8 0 (by simp)).trans ((k6 0 (by simp)).trans ((other 0 (by decide) (by decide) (by decide)).trans bt.a0));have agL:W7.heap[l]? = some (.loop (oy .ready fn tm D)):=(hl9 l rfl).trans LV.l;have h22:a8.eval (.tmp 22)=.bool (((((ph d y).1.1==x.1.1)&&((ph d y).1.2==x.1.2))&&((ph d y).2==x.2))):=t9.rep 22;have agM:pU (tell m pre) y=tell m (pre++[y]):=(R4 m pre y).symm;have amN:f++pre++[y]=f++(pre++[y]):=List.append_assoc _ _ _;rw[agM,amN]at gA9 ap9 s9 tr4 fl9;have hp:Path (ph d) (pre++y::rest) x:=by rw[←wm,htr];exact hcy
 have hpy:ph d y=rest.head?.getD x:=(Path.app.1 hp).2.1;rw[lJ]at h22
 cases rest with
 |nil =>
  have e:ph d y=x:=hpy;refine wpIn_cond_true (h22.trans (congrArg Value.bool (decide_eq_true e))) (wpIn_ret ?_);have w6:(results Tryz.f234 a8.tmps).run Tryz.prog W7=.ok (.tuple #[]) W7:=by
   have hr:Tryz.f234.results=#[]:=by kernel_rfl
   grind [results_none]
  refine⟨t9.defers,_,w6,⟨_,rfl⟩,Z9,Pu,?_⟩;rw[wm];exact⟨gA9,s9,agL,tr4.less (fun _ h=>h) (fun q h=>.inl h) fun _ h=>h⟩
 |cons y' r =>
  have e:ph d y=y':=hpy;have bw:ph d y≠x:=fun k=>by
   rw[htr]at wm;have acm:=Fe;rw[wm]at acm;have h1:x∈pre++[y]:=by
    cases pre with
    |nil=>grind
    |cons q t=>simp at wm;simp[wm.1]
   rw[show pre++y::y'::r=(pre++[y])++y'::r by simp]at acm;exact(ada.1 acm).2.2 x h1 y' aco (k.symm.trans e)
  refine wpIn_cond_false (h22.trans (congrArg Value.bool (decide_eq_false bw))) (wpIn_skip ?_);rw[e]at gB9 ap9 tr4 fl9 t9;refine⟨r.length,by simp,pre++[y],y',r,Z9,Pu,ψ9,true,by rw[wm];simp,rfl,⟨gA9,gB9,ap9,s9,agL,fun q hq=>⟨(fl9 q hq).1,(fl9 q hq).2.1,fun h=>(fl9 q hq).2.2 h.symm⟩,tr4,a8z,acY hB4 tr9.size⟩,?_⟩;refine fa (fun p hp=>?_) t9.size t9.defers;have hp:p∈[(5,AV.bool true),(1,AV.ref 20002 0 0 0),(2,AV.ref 20003 0 0 0),(4,AV.ref 20004 0 0 0)]:=hp;simp only[List.mem_cons,List.not_mem_nil,or_false]at hp;rcases hp with rfl|rfl|rfl|rfl
  ·exact t9.rep 5
  ·exact t9.rep 1
  ·exact t9.rep 2
  ·exact t9.rep 4
end Go.Vs
namespace Go.Vs
open Go.Proofs Go.Cy
variable {Z Z' Z0:Nat→Prop} {ψ ψ' ψ0 vp BV:Nat→Value} {h h':Hp} {w w' w0:World} {B0:Nat} {O N:Nat→Prop}
abbrev E4:Nat→Prop:=fun _=>False
def XM(D:Nat):Deferred:={ target:=.collected D,args:=#[] }
structure MsX(Z0:Nat→Prop)(w0:World)(Ds:List Nat)(sh:Shape)(x:sh.T)(a:Act)(W:World)(a0:Act)(Z:Nat→Prop)(ψ:Nat→Value):Prop where
 e:a=lP (Ds.map XM) a0
 wk:Wk Z0 w0 E4 Z W
 g:Good Z ψ (az sh x).heap.get W w0.heap.size E4
 t:cT Z ψ (az sh x).heap.get W 36 (look (az sh x).tmps) a0
 nd:Ds.Nodup
 m:∀D,D∈Ds→W.heap[D]? = some (.deferred (some []))∧w0.heap.size≤D
 fr:ig (·∈Ds) Z (Own ψ (az sh x).heap.get) W
def Ms(Z0:Nat→Prop)(w0:World)(Ds:List Nat)(sh:Shape)(x:sh.T)(a:Act)(W:World):Prop:=∃a0 Z ψ,MsX Z0 w0 Ds sh x a W a0 Z ψ
variable {Ds:List Nat} {sh sh':Shape} {x:sh.T} {x':sh'.T} {a:Act} {W:World}
theorem Jg{c:Code}{R:Type}{kk:St→Option R}{y:R}(hx:rn F1 36 [] c (az sh x) kk=some y)(n:Nat){a0:Act}(s:MsX Z0 w0 Ds sh x a W a0 Z ψ) :
  c.wpIn (FW none) n Tryz.prog (Aft 36 [] (fun d=>a0.tmps.getD d undef) (Ds.map XM) kk y Z W (Own ψ (az sh x).heap.get) ψ) a W:=by
 rw[s.e];exact dV qY hx none n _ (Good.start s.g) s.t
theorem NM{st:St}{a1:Act}{W':World}(s:MsX Z0 w0 Ds sh x a W a1 Z ψ)(Ae:cM sh' st=some x'){ψ':Nat→Value}{Z':Nat→Prop}{a2:Act}(ok:Ok Z W (Own ψ (az sh x).heap.get) ψ Z' ψ' st.heap.get W')(t:cT Z' ψ' st.heap.get W' 36 (look st.tmps) a2):Ms Z0 w0 Ds sh' x' (lP (Ds.map XM) a2) W':=by obtain⟨Z2,eE,E3,t2⟩:=gL Ae ok t;obtain⟨f1,f2⟩:=(E3.tr (L:=E4)).free s.fr fun _ _ h=>h;exact⟨a2,Z2,eE,rfl,s.wk.step (E3.tr (L:=E4)) s.g.from (fun _ h=>h.elim),E3.NJ s.g s.wk.size,t2,s.nd,fun D hD=>⟨(f2 D hD).trans (s.m D hD).1,(s.m D hD).2⟩,f1⟩
theorem ED{c:Code}(hx:rn F1 36 [] c (az sh x) (cM sh')=some x')(n:Nat)(s:Ms Z0 w0 Ds sh x a W):c.wpIn (FW none) n Tryz.prog (fun e a' W'=>e=.normal∧Ms Z0 w0 Ds sh' x' a' W') a W:=by obtain⟨a0,Z,ψ,s⟩:=s;refine wpIn_mono (Jg hx n s) ?_;rintro e a1 W1 ⟨rfl,a2,rfl,_,st,Z1,oC,Ae,ok,t⟩;exact⟨rfl,NM s Ae ok t⟩
theorem Pv{c c':Code}(hx:(rn F1 36 [] c (az sh x) fun st=>rn F1 36 [] c' st (cM sh'))=some x')(n:Nat)(s:Ms Z0 w0 Ds sh x a W) :
  c.wpIn (FW none) n Tryz.prog (fun e a' W'=>e=.normal∧c'.wpIn (FW none) n Tryz.prog (fun e a' W'=>e=.normal∧Ms Z0 w0 Ds sh' x' a' W') a' W') a W:=by
 obtain⟨a0,Z,ψ,s⟩:=s;refine wpIn_mono (Jg hx n s) ?_;rintro e a1 W1 ⟨rfl,a2,rfl,_,st,Z1,oC,Ae,ok,t⟩;refine⟨rfl,wpIn_mono (dV qY Ae none n _ ok t) ?_⟩;rintro e a3 W3 ⟨rfl,a4,rfl,_,st3,Z3,Th,acn,Y2,t3⟩;exact⟨rfl,NM s acn Y2 t3⟩
abbrev hC(d:an)(out:List (List ae))(l:List ae):Heap:=[(20004,.box 27 (enc cU d))]++rY rws ((out,(l,())):Mr (rws.map (·.2.2)))
theorem BW{i:Nat}{v:Value}(hr:aC Z ψ h w (.bL i) v)(hi:h' i≠none→h i≠none∧ψ' i=ψ i):aC Z' ψ' h' w' (.bL i) v:=by
 grind [aC]
theorem EE{m:Tm}{f:List ae}{i:Nat}(h:(hA m f).get i≠none):i=20000∨i=9000∨i=20001∨i=9016:=by
 have e:hA m f=[(20000,.box 201 [.bL 9000]),(9000,.own (.map bm .bool) m),(20001,.box 36 [.bL 9016]),(9016,.own (.row 40 bm) f)]:=rfl;rw[e]at h;simp only[Heap.get]at h
 grind
theorem Jh{x:ae}{d:an}{i:Nat}(h:(hU x d).get i≠none):i=20002∨i=20003:=by
 have e:hU x d=[(20002,.box 40 (enc bm x)),(20003,.box 27 (enc cU d))]:=rfl;rw[e]at h;simp only[Heap.get]at h
 grind
theorem EF{d:an}{out:List (List ae)}{l:List ae}{i:Nat}(h:(hC d out l).get i≠none):i=20004∨i=31000∨i=31001:=by
 have e:hC d out l=[(20004,.box 27 (enc cU d)),(31000,.own (.row 36 (.sl bm)) out),(31001,.own (.row 40 bm) l)]:=rfl;rw[e]at h;simp only[Heap.get]at h
 grind
theorem zU{a b:Heap}{i:Nat}{o:Ob}(h:a.get i=some o):(a++b).get i=some o:=by rw[Heap.get_append,h]
theorem zX{a b:Heap}{i:Nat}(h:a.get i=none):(a++b).get i=b.get i:=by rw[Heap.get_append,h]
theorem Ji{h:Hp}{i:Nat}(k:h i≠none→False):h i=none:=by simp_all
theorem EG{a b c:Heap}(g:Good Z ψ c.get w B0 O)(sa:∀i o,a.get i=some o→c.get i=some o)(sb:∀i o,b.get i=some o→c.get i=some o)(dis:∀i,a.get i≠none→b.get i≠none→False):ig (Own ψ b.get) Z (Own ψ a.get) w:=by
 have up:∀{e:Heap} (se:∀i o,e.get i=some o→c.get i=some o) {i},e.get i≠none→c.get i≠none:=fun {e} se {i} hi=>by obtain⟨o,ho⟩:=acb.1 hi;simp_all
 rintro q ⟨i,h1,h2⟩;refine⟨g.bP ⟨i,up sb h1,h2⟩,(g.live i q (up sb h1) h2).1,?_⟩;rintro⟨j,h3,h4⟩;have e:=g.apart i j q (up sb h1) (up sa h3) h2 h4;simp_all
end Go.Vs
namespace Go.Vs
open Go.Proofs Go.Cy
variable {Z Z' Z0:Nat→Prop} {ψ ψ' ψ0 vp BV:Nat→Value} {h h':Hp} {w w' w0:World} {B0:Nat} {O N:Nat→Prop}
variable {Ds:List Nat} {a:Act} {W:World}
abbrev x3(n i:Int)(m:Tm)(f:List ae)(x:ae)(d:an)(out:List (List ae))(l:List ae):S3.T:=((n,(i,())),(((m,()),((f,()),((x,()),((d,()),((d,()),()))))),(out,(l,()))))
abbrev x12(n i:Int)(m:Tm)(f:List ae)(d:an)(out:List (List ae))(l:List ae):S12.T:=((n,(i,())),(((m,()),((f,()),((d,()),()))),(out,(l,()))))
set_option maxRecDepth 20000 in
theorem Wr(k:Nat){n i:Int}{m:Tm}{x:ae}{d:an}{out:List (List ae)}{l:List ae}(wf:Wf d)(hx:x∈aq d.1)(s:Ms Z0 w0 Ds S3 (x3 n i m [] x d out l) a W) :
  cRF.wpIn (FW none) k Tryz.prog (fun e a' W'=>e=.normal∧Ms Z0 w0 (W.heap.size::Ds) S12 (x12 n i (tell m (bq d x)) (bq d x) d out l) a' W') a W:=by
 obtain⟨a0,Z,ψ,s⟩:=s;have hH:(az S3 (x3 n i m [] x d out l)).heap=hA m []++(hU x d++hC d out l):=rfl;have hg:=s.g;have C1:=s.fr;have ht:=s.t;rw[hH]at hg C1 ht;have sA:∀j o,(hA m []).get j=some o→(hA m []++(hU x d++hC d out l)).get j=some o:=fun j o e=>zU e;have nA:∀{j},j=20002∨j=20003∨j=20004∨j=31000∨j=31001→∀m f,(hA m f).get j=none:=fun {j} hj m f=>Ji fun e=>by grind [EE]
 have nU:∀{j},j=20004∨j=31000∨j=31001→(hU x d).get j=none:=fun {j} hj=>Ji fun e=>by grind [Jh]
 have sU:∀j o,(hU x d).get j=some o→(hA m []++(hU x d++hC d out l)).get j=some o:=fun j o e=>by
  have:=Jh (show(hU x d).get j≠none by rw[e];simp)
  grind [zX,zU]
 have sC:∀j o,(hC d out l).get j=some o→(hA m []++(hU x d++hC d out l)).get j=some o:=fun j o e=>by
  have:=EF (show(hC d out l).get j≠none by rw[e];simp)
  grind [zX]
 have gA:=hg.sub sA;have gU:=hg.sub sU;have gC:=hg.sub sC;have fUA:ig (Own ψ (hU x d).get) Z (Own ψ (hA m []).get) W:=EG hg sA sU fun j h1 h2=>by grind [EE,Jh]
 have fCA:ig (Own ψ (hC d out l).get) Z (Own ψ (hA m []).get) W:=EG hg sA sC fun j h1 h2=>by grind [EE,EF]
 have fCU:ig (Own ψ (hC d out l).get) Z (Own ψ (hU x d).get) W:=EG hg sU sC fun j h1 h2=>by grind [Jh,EF]
 have h22:=ht.rep 22;have e22:look (az S3 (x3 n i m [] x d out l)).tmps 22=.fn 234 [.ref 20002 0 0 0,.ref 20003 0 0 0]:=rfl;rw[e22]at h22;simp only[aC,ax]at h22;obtain⟨ws,hv,px,_,Tj,rx,pd,_,rfl,rd,rfl⟩:=h22;have Tj:ws=#[px,pd]:=Array.ext' Tj;subst Tj;have less:∀{hp:Heap} {v:AV} {u:Value},(∀j o,hp.get j=some o→(hA m []++(hU x d++hC d out l)).get j=some o)→aC Z ψ (hA m []++(hU x d++hC d out l)).get W v u→aC Z ψ hp.get W v u:=fun {hp v u} hs hr=>hr.og hs;have rx:aC Z ψ (hU x d).get W (.ref 20002 0 0 0) px:=less sU (by grind [aC]);have rd:aC Z ψ (hU x d).get W (.ref 20003 0 0 0) pd:=less sU (by grind [aC]);have sl:Sl a0.tmps Z ψ (hA m []).get W:=⟨ht.size,less sA (ht.rep 4),less sA (ht.rep 7)⟩;rw[s.e];refine wpIn_rangeFunc ?_;intro fn _;obtain⟨D,hD⟩:∃D,D=W.heap.size:=⟨_,rfl⟩;obtain⟨W1,GY⟩:∃W1,W1=(W.alloc (.deferred (some []))).alloc (.loop (oy .ready fn a0.tmps D)):=⟨_,rfl⟩;have ij:W1.heap.size=D+2:=by rw[GY,hD];simp
 have cH:∀b,b<W.heap.size→W1.heap[b]? = W.heap[b]? := fun b hb=>by
  grind [heap_alloc_old,World.size_alloc]
 have hL1:W1.heap[D+1]? = some (.loop (oy .ready fn a0.tmps D)):=by
  grind [World.alloc_heap_new,oy,World.size_alloc]
 have hD1:W1.heap[D]? = some (.deferred (some [])):=by
  grind [heap_alloc_old,World.size_alloc,World.alloc_heap_new]
 have lift:∀{hp:Heap} {ψ:Nat→Value},Good Z ψ hp.get W w0.heap.size E4→Good Z ψ hp.get W1 w0.heap.size E4:=fun {hp ψ} g=>g.same (fun _ h=>h) (fun b hb=>cH b (hb.elim (g.kg b) g.bP)) (fun b hb hz=>(g.zA b hz).2 hb) fun b hb=>by have:=g.kg b hb;omega
 have sm1:cw Z W W1:=fun b hb=>cH b (hg.kg b hb);have gA1:=lift gA;have gU1:=lift gU;have gC1:=lift gC;have up:∀{X A:Nat→Prop},ig X Z A W→ig X Z A W1:=fun {X A} f b hb=>⟨by have:=(f b hb).1;omega,(f b hb).2⟩;have sl1:Sl a0.tmps Z ψ (hA m []).get W1:=⟨sl.n,sl.t4.less (fun _ h=>h) sm1 fun j hj=>⟨hj,rfl⟩,sl.t7.less (fun _ h=>h) sm1 fun j hj=>⟨hj,rfl⟩⟩;have fresh:∀{hp:Heap} {b:Nat},Good Z ψ hp.get W w0.heap.size E4→W.heap.size≤b→¬Z b∧¬Own ψ hp.get b:=fun {hp b} g hb=>⟨fun hz=>by have:=g.kg b hz;omega,fun ho=>by have:=g.bP ho;omega⟩;have fl0:∀b,D≤b→b<D+2→b<W1.heap.size∧¬Z b∧¬(Own ψ (hA m []).get b∨Own ψ (hU x d).get b):=fun b h1 h2 =>⟨by omega,(fresh gA (by omega)).1,fun h=>h.elim (fresh gA (by omega)).2 (fresh gU (by omega)).2⟩;have fl1:ig (·=D+1) Z (fun b=>Own ψ (hA m []).get b∨Own ψ (hU x d).get b) W1:=fun b hb=>fl0 b (by omega) (by omega);have hlen:([]:List ae).length+(bq d x).length≤eY:=by grind [G3,eY]
 have it:=Y1 (k-1) wf hx gA1 gU1 (up fUA) (by rw[ij,hD];have:=s.wk.size;omega) sl1 (rx.less (fun _ h=>h) sm1 fun j hj=>⟨hj,rfl⟩) (rd.less (fun _ h=>h) sm1 fun j hj=>⟨hj,rfl⟩) hL1 fl1 hlen;refine⟨D+1,[XM D],W1,{ target:=.fn (.func 234) #[px,pd],args:=#[.func (.yield (D+1)) #[] #[]] },W1,234,#[.func (.yield (D+1)) #[] #[],px,pd],W1,?_,?_,fun _ _=>trivial,?_,fun h=>(by cases h),?_⟩
 ·rw[GY,hD];exact run_enterLoop_outer _ _ _ _ _
 ·rw[wj];have Bv:a0.eval (.tmp 22)=.func (.func 234) #[] #[px,pd]:=hv;simp only[Go.resolve,Bv];simp[go_sem]
 ·rfl
 refine it.mono ?_;rintro e W2 ⟨⟨v,rfl⟩,Z2,eE,R5⟩;refine⟨none,_,run_endLoop R5.hl (by simp[oy]),rfl,?_⟩;have tA:∀{X},ig X Z (fun b=>Own ψ (hA m []).get b∨Own ψ (hU x d).get b) W1→ig X Z2 (Own eE (hA (tell m (bq d x)) ([]++bq d x)).get) W2:=fun {X} f=>R5.tr.LS f;rw[List.nil_append]at R5;have fC1:ig (Own ψ (hC d out l).get) Z (fun b=>Own ψ (hA m []).get b∨Own ψ (hU x d).get b) W1:=fun b hb=>⟨(up fCA b hb).1,(up fCA b hb).2.1,fun h=>h.elim (fCA b hb).2.2 (fCU b hb).2.2⟩;have cD:∀b,Own ψ (hC d out l).get b→b<D:=fun b hb=>by grind
 have zD:∀b,Z b→b<D:=fun b hb=>by grind
 have gA2:=R5.gA;have gC2:Good Z2 ψ (hC d out l).get W2 w0.heap.size E4:=R5.tr.part (fun b hb h=>h.elim (gA.zA b hb).2 (gU.zA b hb).2) gC1 fC1 (fun b hb e=>by grind) gA2.kg;have apC:ig (Own ψ (hC d out l).get) Z2 (Own eE (hA (tell m (bq d x)) (bq d x)).get) W2:=R5.tr.LS fC1;have Wo:ig (·=D+1) Z2 (Own eE (hA (tell m (bq d x)) (bq d x)).get) W2:=R5.tr.LS fl1;have flC:ig (·=D+1) Z2 (Own ψ (hC d out l).get) W2:=fun b hb=>⟨(Wo b hb).1,(Wo b hb).2.1,fun h=>by grind⟩;have gA3:=gA2.putObj (o':=.loop { oy .ready fn a0.tmps D with state:=.exhausted }) Wo;have gC3:=gC2.putObj (o':=.loop { oy .ready fn a0.tmps D with state:=.exhausted }) flC;obtain⟨W3,hW3⟩:∃W3,W3=W2.putObj (D+1) (.loop { oy .ready fn a0.tmps D with state:=.exhausted }):=⟨_,rfl⟩;rw[←hW3]at gA3 gC3 ⊢;have sm3:cw Z2 W2 W3:=by grind [nW]
 have aoK:W3.heap.size=W2.heap.size:=by rw[hW3];simp
 have dis:∀j,(hA (tell m (bq d x)) (bq d x)).get j≠none→(hC d out l).get j=none:=fun j hj=>Ji fun e=>by have:=EE hj;grind [EF]
 have apJ:∀q,Own eE (hA (tell m (bq d x)) (bq d x)).get q→¬Own ψ (hC d out l).get q:=fun q h1 h2=>(apC q h2).2.2 h1;have gJ:=gA3.join gC3 dis apJ (fun j ty cs hj=>by
  have e:=EE (show(hA (tell m (bq d x)) (bq d x)).get j≠none by rw[hj];simp);rcases e with rfl|rfl|rfl|rfl
  ·cases hj
   show aD _ [.bL 9000];simp only[aD,aM];exact⟨fun k=>(by cases k),trivial⟩
  ·cases hj
  ·cases hj
   show aD _ [.bL 9016];simp only[aD,aM];exact⟨fun k=>(by cases k),trivial⟩
  ·cases hj) (fun j ty cs hj=>by
  have e:=EF (show(hC d out l).get j≠none by rw[hj];simp);rcases e with rfl|rfl|rfl
  ·cases hj;exact sY d _
  ·cases hj
  ·cases hj)
 have amR:∀b,Own (qX (hA (tell m (bq d x)) (bq d x)).get eE ψ) (hA (tell m (bq d x)) (bq d x)++hC d out l).get b→Own eE (hA (tell m (bq d x)) (bq d x)).get b∨Own ψ (hC d out l).get b:=fun b ⟨j,h1,h2⟩=>by
  by_cases e:(hA (tell m (bq d x)) (bq d x)).get j=none
  ·rw[zX e]at h1;rw[pS e]at h2;exact .inr ⟨j,h1,h2⟩
  ·rw[pR e]at h2;exact .inl ⟨j,e,h2⟩
 refine⟨a0,Z2,qX (hA (tell m (bq d x)) (bq d x)).get eE ψ,?_,?_,?_,?_,?_,?_,?_⟩
 ·show({ lP (Ds.map XM) a0 with defers:=[XM D]++(lP (Ds.map XM) a0).defers }:Act)=lP ((W.heap.size::Ds).map XM) a0;unfold lP;rw[ht.defers,←hD];rfl
 ·have o1:∀q,(Own ψ (hA m []).get q∨Own ψ (hU x d).get q)→w0.heap.size≤q∨E4 q:=fun q h=>h.elim (gA.from q) (gU.from q);have w1:Wk Z0 w0 E4 Z W1:=s.wk.step (A:=fun q=>Own ψ (hA m []).get q∨Own ψ (hU x d).get q) (B:=fun q=>Own ψ (hA m []).get q∨Own ψ (hU x d).get q) (L:=E4) (Tr.cc (by rw[GY];rfl) (by rw[GY];rfl) (by rw[GY];rfl) (by omega) fun b hb _=>cH b hb) o1 fun _ h=>h.elim;have hDl:∀b,b=D+1→w0.heap.size≤b:=fun b hb=>by have:=s.wk.size;omega
  have w2:=w1.step R5.tr o1 hDl;rw[hW3];exact w2.step zT gA2.from hDl
 ·exact gJ
 ·have q1:∀{j},(j=20000∨j=20001)→(hA (tell m (bq d x)) (bq d x)).get j≠none:=fun {j} hj=>by rcases hj with rfl|rfl<;>(intro k;cases k)
  have rA:∀{j u},(j=20000∨j=20001)→aC Z2 eE (hA (tell m (bq d x)) (bq d x)).get W2 (.ref j 0 0 0) u→aC Z2 (qX (hA (tell m (bq d x)) (bq d x)).get eE ψ) (hA (tell m (bq d x)) (bq d x)++hC d out l).get W3 (.ref j 0 0 0) u:=fun {j u} hj hr =>Jd (fun _ h=>h) hr fun _=>⟨q1 hj,pR (q1 hj)⟩;have cN:∀{j},(j=20004∨j=31000∨j=31001)→(hA m []++(hU x d++hC d out l)).get j≠none∧qX (hA (tell m (bq d x)) (bq d x)).get eE ψ j=ψ j:=fun {j} hj=>by
   have e1:(hC d out l).get j≠none:=by rcases hj with rfl|rfl|rfl<;>(intro k;cases k)
   obtain⟨o,ho⟩:=acb.1 e1;exact⟨by grind,pS (nA (by omega) _ _)⟩
  refine fa (fun p hp=>?_) ht.size ht.defers;have hp:p∈[(12,AV.int .i64 n),(13,AV.int .i64 i),(4,AV.ref 20000 0 0 0),(7,AV.ref 20001 0 0 0),(1,AV.ref 20004 0 0 0),(3,AV.bL 31000),(11,AV.bL 31001)]:=hp;simp only[List.mem_cons,List.not_mem_nil,or_false]at hp;rcases hp with rfl|rfl|rfl|rfl|rfl|rfl|rfl
  ·exact ht.rep 12
  ·exact ht.rep 13
  ·exact rA (.inl rfl) R5.s.t4
  ·exact rA (.inr rfl) R5.s.t7
  ·exact Jd (fun b hb=>R5.tr.gk b hb) (ht.rep 1) fun _=>cN (.inl rfl)
  ·exact BW (ht.rep 3) fun _=>cN (.inr (.inl rfl))
  ·exact BW (ht.rep 11) fun _=>cN (.inr (.inr rfl))
 ·refine acg.2 ⟨fun hm=>?_,s.nd⟩;have:=(C1 _ hm).1;omega
 ·have keep:∀b,b<D+1→b<W1.heap.size→¬(Own ψ (hA m []).get b∨Own ψ (hU x d).get b)→W3.heap[b]? = W1.heap[b]? := fun b h1 h2 h3=>by rw[hW3,World.putObj_heap_other (by omega)];exact R5.tr.block b h2 h3 (by omega)
  intro q hq;rcases abL.1 hq with rfl|hq
  ·refine⟨?_,s.wk.size⟩;rw[←hD];exact(keep D (by omega) (by omega) (fl0 D (by omega) (by omega)).2.2).trans hD1
  ·have h0:=C1 q hq;refine⟨?_,(s.m q hq).2⟩;have own:∀{hp:Heap},(∀j o,hp.get j=some o→(hA m []++(hU x d++hC d out l)).get j=some o)→¬Own ψ hp.get q:=fun {hp} hs ⟨j,h1,h2⟩=>h0.2.2 ⟨j,(by obtain⟨o,ho⟩:=acb.1 h1;rw[hs _ _ ho];simp),h2⟩;rw[keep q (by omega) (by omega) (fun h=>h.elim (own sA) (own sU)),cH q h0.1];exact(s.m q hq).1
 ·intro q hq;have base:q<W1.heap.size∧¬Z q∧¬(Own ψ (hA m []).get q∨Own ψ (hU x d).get q)∧¬Own ψ (hC d out l).get q:=by
   rcases abL.1 hq with rfl|hq
   ·grind
   ·have h0:=C1 q hq;have own:∀{hp:Heap},(∀j o,hp.get j=some o→(hA m []++(hU x d++hC d out l)).get j=some o)→¬Own ψ hp.get q:=fun {hp} hs ⟨j,h1,h2⟩=>h0.2.2 ⟨j,(by obtain⟨o,ho⟩:=acb.1 h1;rw[hs _ _ ho];simp),h2⟩;exact⟨by omega,h0.2.1,fun h=>h.elim (own sA) (own sU),own sC⟩
  have h2:=R5.tr.LS (X:=(·=q)) (fun b hb=>by grind) q rfl;exact⟨by omega,h2.2.1,fun h=>(amR q h).elim h2.2.2 base.2.2.2⟩
end Go.Vs
namespace Go.Vs
open Go.Proofs Go.Cy
variable {Z Z' Z0:Nat→Prop} {ψ ψ' ψ0 vp BV:Nat→Value} {h h':Hp} {w w' w0:World} {B0:Nat} {O N:Nat→Prop}
theorem zY{β α:Type}[DecidableEq β]{x z:β}{v:α}:∀{es:List (β×α)} {i:Nat},(es.findIdx? fun e=>decide (e.1=x))=some i→fh z (es.set i (x,v))=if x=z then some v else fh z es
 |[],i,h=>by simp at h
 |e::r,i,h=>by
  rw[List.findIdx?_cons]at h;by_cases he:e.1=x
  ·rw[if_pos (decide_eq_true he)]at h
   cases h
   rw[List.set_cons_zero,fh,fh];show(if x=z then some v else fh z r)=_;rw[he];by_cases k:x=z
   ·rw[if_pos k,if_pos k]
   ·rw[if_neg k,if_neg k,if_neg k]
  ·rw[if_neg (by simpa using he)]at h;obtain⟨j,hj,rfl⟩:=ac1.1 h;have ih:=zY (z:=z) (v:=v) hj;rw[List.set_cons_succ,fh,fh,ih];by_cases k:e.1=z
   ·rw[if_pos k,if_neg (fun q=>he (k.trans q.symm)),if_pos k]
   ·rw[if_neg k,if_neg k]
theorem zZ{β α:Type}[DecidableEq β]{x z:β}{v:α}:∀{es:List (β×α)},(es.findIdx? fun e=>decide (e.1=x))=none→fh z (es++[(x,v)])=if x=z then some v else fh z es
 |[],_=>rfl
 |e::r,h=>by
  rw[List.findIdx?_eq_none_iff]at h;have he:e.1≠x:=by simp_all
  have ih:=zZ (z:=z) (v:=v) (es:=r) (List.findIdx?_eq_none_iff.2 fun q hq=>h q (abC _ hq));rw[List.cons_append,fh,fh,ih]
  grind
theorem R6{α:Type}(x z:ae)(v:α)(es:List (ae×α)):fh z (jF bm x v es)=if x=z then some v else fh z es:=by
 have e:=EA x es;unfold jF
 split
 ·rename_i i hi;exact zY (e.symm.trans hi)
 ·rename_i hi;exact zZ (e.symm.trans hi)
def Hw(m:Tm)(T:List ae):Prop:=∀z,(fh z m).getD false=decide (z∈T)
theorem Hw.tell{m:Tm}{T:List ae}(h:Hw m T)(l:List ae):Hw (tell m l) (T++l):=by
 induction l generalizing m T with
 |nil=>rw[List.append_nil];exact h
 |cons y r ih =>
  have h1:Hw (pU m y) (T++[y]):=fun z=>by
   unfold pU;rw[R6];by_cases k:y=z
   ·subst k;simp
   ·rw[if_neg k,h z]
    grind
  have:=ih h1;rw[List.append_assoc]at this;exact this
theorem Ws{m:Tm}{T:List ae}(h:Hw m T)(y:ae):(fz bm (y.1,y.2) m).getD false=decide (y∈T):=by have:=NC y m;show(fz bm y m).getD false=_;rw[this];exact h y
abbrev x0(n i:Int)(m:Tm)(d:an)(out:List (List ae))(l:List ae):S0.T:=((n,(i,())),(((m,()),((d,()),())),(out,(l,()))))
theorem Pw{Ds:List Nat}{sh:Shape}{x:sh.T}{a:Act}{W:World}(s:Ms Z0 w0 Ds sh x a W){i:Nat}{b:Bool}(e:look (az sh x).tmps i=.bool b):a.eval (.tmp i)=.bool b:=by obtain⟨a0,Z,ψ,s⟩:=s;have:=s.t.rep i;rw[e]at this;rw[s.e,wj];exact this
theorem yf{n:Nat}{fn:Func}{tmps:Array Value}{R:Ending→World→Prop}:∀(Ds:List Nat) (W:World),Ds.Nodup→(∀D,D∈Ds→W.heap[D]? = some (.deferred (some []))) →(∀W',W'.os=W.os→W'.tape=W.tape→W'.output=W.output→W'.heap.size=W.heap.size→(∀b,b∉Ds→W'.heap[b]? = W.heap[b]?)→∃v,(results fn tmps).run Tryz.prog W'=.ok v W'∧R (.returned v) W') → LeavesInM (FW none) n Tryz.prog fn tmps R (Ds.map XM) .returning W
 |[],W,_,_,h=>h W rfl rfl rfl rfl fun _ _=>rfl
 |D::Ds,W,hn,hd,h=>by
  obtain⟨h1,h2⟩:=acg.1 hn;refine⟨by simp,.inl ⟨D,_,rfl,run_takeDeferred (hd D aco),?_⟩⟩;refine yf Ds _ h2 (fun E hE=>?_) fun W' e1 e2 e3 e4 e5=>?_
  ·grind [World.putObj_heap_other,List.mem_cons_of_mem]
  ·refine h W' e1 e2 e3 (e4.trans (by simp)) fun b hb=>?_
   grind [List.mem_cons_of_mem,World.putObj_heap_other,List.mem_cons_self]
abbrev SN:Shape:=⟨[(0,cU)],[],[],[]⟩
theorem R7{d:an}(wf:Wf d):Gs Tryz.prog 207 AI ((d,()),()) ((bV d,()),()):=by
 intro Z ψ0 w kV hg hr;have hr:ax Z ψ0 (Heap.get []) w [cj cU d] kV:=hr;have hg:Good Z ψ0 (Heap.get []) w w.heap.size (Own ψ0 (Heap.get [])):=hg;have EH:∀b,¬Own ψ0 (Heap.get []) b:=fun b ⟨i,h1,_⟩=>h1 rfl;simp only[ax]at hr;obtain⟨u0,_,rfl,hu,rfl⟩:=hr;refine ye (r:=none) (n:=5) (callsIn_of_wp_marks Tryz.func207 YY trivial ?_ rfl);obtain⟨FC,Ps⟩:∃t:Array Value,t=#[u0]++Array.replicate (Tryz.f207.ntmps-(#[u0]:Array Value).size) undef:=⟨_,rfl⟩;show Code.wpIn _ _ _ _ _ { tmps:=#[u0]++Array.replicate (Tryz.f207.ntmps-(#[u0]:Array Value).size) undef,defers:=[] } w;rw[←Ps];have hs0:FC.size=36:=by simp_all
 have e0:FC.getD 0 undef=u0:=by rw[Ps];simp
 have ms0:MsX Z w [] SN ((d,()),((),())) { tmps:=FC,defers:=[] } w { tmps:=FC,defers:=[] } Z ψ0:=by refine⟨rfl,Wk.start Z w E4,hg.Wj fun b h _=>(EH b h).elim,fa (fun p hp=>?_) hs0 rfl,List.nodup_nil,fun D hD=>(by cases hD),fun D hD=>(by cases hD)⟩;have hp:p∈[(0,cj cU d)]:=hp;simp only[List.mem_cons,List.not_mem_nil,or_false]at hp;subst hp;show aC _ _ _ _ _ (FC.getD 0 undef);rw[e0];exact hu
 have amS:F1 223 xg ((d,()),())=some ((eV d.2,()),()):=Wl rfl (agu hg0 d wf.sm);have hn:=(amz F1 d).trans (aa amS rfl);refine wpIn_seq (wpIn_mono (Jg hn 5 ms0) ?_);rintro e a1 W1 ⟨rfl,a2,rfl,_,jl,Z1,oC,q1,Y0,t1⟩;refine wpIn_seq (wpIn_mono (dV qY q1 none 5 _ Y0 t1) ?_);rintro e a3 W3 ⟨rfl,a4,rfl,_,st2,Z2,eE,q2,E3,t2⟩;refine wpIn_seq (wpIn_mono (dV qY q2 none 5 _ E3 t2) ?_);rintro e a5 W5 ⟨rfl,a6,rfl,_,st3,Z3,Th,q3,Y2,t3⟩;refine wpIn_seq (wpIn_seq (wpIn_mono (dV qY q3 none 5 _ Y2 t3) ?_));rintro e a7 W7 ⟨rfl,a8,rfl,_,st4,Z4,CO,q4,ok4,t4⟩;have ms:=NM ms0 q4 ok4 t4;clear q1 q2 q3 q4 Y0 E3 Y2 ok4 t1 t2 t3 t4;obtain⟨l,hl⟩:∃l,l=eV d.2:=⟨_,rfl⟩;rw[←hl]at ms;have hll:l.length≤80:=by rw[hl,mZ];have:=wf.ne;omega
 have iy:∀y,y∈l→y∈aq d.1:=fun y hy=>by rw[hl,lY]at hy;exact wf.pd.mem_iff.2 hy
 refine wpIn_block ?_;refine Jf (fun k a W=>∃(i:Nat) (m:Tm) (out:List (List ae)) (T:List ae) (Ds:List Nat),i≤l.length∧k=l.length-i∧out.length≤i∧Ms Z w Ds S0 (x0 ((l.length:Nat):Int) (i:Int) m d out l) a W∧iY d (l.drop i) out T=bV d∧Hw m T) (k:=l.length) ⟨0,[],[],[],[],adb _,rfl,acW _,ms,by rw[List.drop_zero,hl];rfl,fun z=>by simp[fh]⟩ ?_;rintro k a W ⟨i,m,out,T,Ds,hi,rfl,ho,ms,Me,ht⟩;refine wpIn_seq (wpIn_mono (ED (n4 F1 ((l.length:Nat):Int) (i:Int) _) 5 ms) ?_);rintro e a1 W1 ⟨rfl,ms1⟩;have ZJ:=Pw ms1 (i:=14) rfl;by_cases aH:i<l.length
 case neg =>
  have e:i=l.length:=by omega
  have ef:decide ((i:Int)<((l.length:Nat):Int))=false:=decide_eq_false (by omega);rw[ef]at ZJ;refine wpIn_seq (wpIn_cond_false ZJ (wpIn_exit ?_));show Code.wpIn _ _ _ _ _ _ _;refine wpIn_seq (wpIn_mono (ED (n14 F1 _ _ _ m d out l) 5 ms1) ?_);rintro e a2 W2 ⟨rfl,ms2⟩;refine wpIn_ret ?_;obtain⟨a0,Z2,eE,s⟩:=ms2;rw[e,List.drop_eq_nil_of_le (Nat.le_refl _)]at Me;have Me:out=bV d:=Me;rw[s.e];show LeavesInM _ _ _ _ a0.tmps _ (a0.defers++Ds.map XM) .returning W2;rw[s.t.defers,List.nil_append];refine yf Ds W2 s.nd (fun D hD=>(s.m D hD).1) fun W3 e1 e2 e3 e4 e5=>?_;have w6:Tryz.f207.results=#[.tmp 2]:=by kernel_rfl
  have nZ:∀b,Z2 b∨Own eE (az SE ((),((),(out,())))).heap.get b→b∉Ds:=fun b hb hD=>by have:=s.fr b hD;exact hb.elim this.2.1 this.2.2
  have g3:Good Z2 eE (az SE ((),((),(out,())))).heap.get W3 w.heap.size E4:=s.g.same (fun _ h=>h) (fun b hb=>e5 b (nZ b hb)) (fun b hb hz=>(s.g.zA b hz).2 hb) fun b hb=>by rw[e4];exact s.g.kg b hb
  have k3:Wk Z w E4 Z2 W3:=⟨s.wk.gk,s.wk.eP,e1.trans s.wk.os,e2.trans s.wk.tape,e3.trans s.wk.output,by rw[e4];exact s.wk.size,fun b hb ho=>by rw[e5 b (fun hD=>by have:=(s.m b hD).2;omega)];exact s.wk.block b hb ho⟩;refine⟨_,results_tmp w6 _ _ _,_,Z2,eE,rfl,k3.gk,fun b hb=>?_,⟨k3.os,k3.tape,k3.output,k3.size,fun b hb _=>k3.block b hb fun h=>h⟩,?_,fun i hi=>(by cases hi),?_⟩
  ·rcases k3.eP b hb with h|h|h
   ·exact .inl h
   ·exact h.elim
   omega
  ·rw[Me]at g3;exact g3.Wj fun b _ hb=>hb.elim .inl fun h=>h.elim
  ·have r2:=s.t.rep 2;have:aC Z2 eE (az SE ((),((),(out,())))).heap.get W2 (.bL 3000) (a0.tmps.getD 2 undef):=r2;rw[Me]at this;simp only[aC]at this;show aC Z2 eE _ W3 (.bL 3000) _;simp only[aC];exact this
 have et:decide ((i:Int)<((l.length:Nat):Int))=true:=aN aH;rw[et]at ZJ;refine wpIn_seq (wpIn_cond_true ZJ (wpIn_skip ?_));refine wpIn_seq (wpIn_block (wpIn_seq ?_));have hy:=iy l[i] (acv aH);have h5:=(n5 F1 (decide ((i:Int)<((l.length:Nat):Int))) ((l.length:Nat):Int) (i:Int) m d out l).trans (af (cd (fq i) (aN aH)) (aa (a:=l[i]) (by simp_all) rfl));refine wpIn_mono (Pv h5 5 ms1) ?_;rintro e a2 W2 ⟨rfl,hc⟩;refine wpIn_seq (wpIn_seq (wpIn_mono hc ?_));rintro e a3 W3 ⟨rfl,ms3⟩;have h19:=Pw ms3 (i:=19) rfl;rw[Ws ht]at h19;have Pg:l.drop i=l[i]::l.drop (i+1):=ac8 aH;rw[Pg,iY]at Me;by_cases hT:l[i]∈T
 ·rw[if_pos hT]at Me;refine wpIn_cond_true (h19.trans (congrArg Value.bool (decide_eq_true hT))) (wpIn_exit ?_);show Code.wpIn _ _ _ _ _ _ _;refine wpIn_mono (ED (amA F1 _ _ _ m d l[i] out l) 5 ms3) ?_;rintro e a4 W4 ⟨rfl,ms4⟩;have ew:=aA aH (by omega);rw[ew]at ms4;exact⟨l.length-(i+1),by omega,i+1,m,out,T,Ds,by omega,rfl,by omega,ms4,Me,ht⟩
 rw[if_neg hT]at Me;refine wpIn_cond_false (h19.trans (congrArg Value.bool (decide_eq_false hT))) (wpIn_skip ?_);refine wpIn_seq (wpIn_mono (Pv (n7 F1 _ _ _ m d l[i] out l) 5 ms3) ?_);rintro e a4 W4 ⟨rfl,hc⟩;refine wpIn_seq (wpIn_seq (wpIn_mono hc ?_));rintro e a5 W5 ⟨rfl,ms5⟩;refine wpIn_block (wpIn_mono (Wr 5 wf hy ms5) ?_);rintro e a6 W6 ⟨rfl,ms6⟩;have S6:=(n12 F1 ((l.length:Nat):Int) (i:Int) (tell m (bq d l[i])) (bq d l[i]) d out l).trans (af (fits (by omega)) rfl);refine wpIn_mono (ED S6 5 ms6) ?_;rintro e a7 W7 ⟨rfl,ms7⟩;refine wpIn_mono (ED (n13 F1 _ _ _) 5 ms7) ?_;rintro e a8 W8 ⟨rfl,ms8⟩;have ew:=aA aH (by omega);rw[ew]at ms8;exact⟨l.length-(i+1),by omega,i+1,_,_,_,_,by omega,rfl,by simp;omega,ms8,Me,ht.tell _⟩
end Go.Vs
