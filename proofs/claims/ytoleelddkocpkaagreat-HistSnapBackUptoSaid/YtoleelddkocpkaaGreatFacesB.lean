/- The walk of the function that -/
import Derived.Test.YtoleelddkocpkaaGreatFacesA
set_option linter.unusedSimpArgs false
set_option linter.unusedVariables false
namespace Go.Vs
open Go.Proofs Go.Cy
variable {Z Z' Z0:Nat→Prop} {ψ ψ' ψ0 vK Ca:Nat→Value} {h h':Hp} {w w' w0:World} {B0:Nat} {O N:Nat→Prop}
theorem WN{p:Nat→Prop}(h:∃n,p n):∃n,p n∧∀m,m<n→¬p m:=by
 obtain⟨n,hn⟩:=h
 induction n using Nat.strongRecOn with
 |_ n ih =>
  grind
open Classical in
noncomputable def least(p:Nat→Prop):Nat:=if h:∃n,p n then Classical.choose (WN h) else 0
theorem EM{p:Nat→Prop}(h:∃n,p n):p (least p)∧∀m,p m→least p≤m:=by
 unfold least
 grind
theorem Jn{F:Fence}{n:Nat}{P:Program}{c:Code}{Q:Exit→Act→World→Prop}(I:Nat→Act→World→Prop){k:Nat}{a:Act}{w:World}(h0:I k a w) (round:∀k a w,I k a w→c.wpIn F n P (Exit.then (fun a' w'=>∃k',k'<k∧I k' a' w') Q) a w):(Code.loop c).wpIn F n P Q a w:=by
 refine wpIn_loop (fun a w=>∃k,I k a w) (fun a w=>least fun k=>I k a w) ⟨k,h0⟩ fun a w hI=>?_;obtain⟨h1,_⟩:=EM hI;refine wpIn_mono (round _ a w h1) fun e a' w' hq=>?_
 cases e with
 |normal=>obtain⟨k',h2,h3⟩:=hq;exact⟨⟨k',h3⟩,Nat.lt_of_le_of_lt ((EM ⟨k',h3⟩).2 k' h3) h2⟩
 |_=>exact hq
abbrev hU(x:ab)(d:ak):Heap:=(aw U0 ((),(((x,()),((d,()),())),()))).heap
abbrev hB(x:ab)(d:ak)(y:ab):Heap:=(aw U1 ((true,()),(((x,()),((d,()),((y,()),()))),()))).heap
def qi(m:Tm)(y:ab):Tm:=jN bj y true m
def tell(m:Tm)(l:List ab):Tm:=l.foldl qi m
theorem Sx(m:Tm)(l:List ab)(y:ab):tell m (l++[y])=qi (tell m l) y:=by simp[tell]
structure Bt(W1:World)(Z1:Nat→Prop)(OA OB:Nat→Prop)(B0:Nat)(O:Nat→Prop)(l:Nat)(rc:Loop)(tm:Array Value)(m:Tm)(f:List ab)(x:ab)(d:ak)(y:ab)(Z:Nat→Prop)(vK Ca:Nat→Value)(a:Act)(W:World):Prop where
 gA:Good Z vK (hA m f).get W B0 O
 gB:Good Z Ca (hB x d y).get W B0 O
 ap:iq (Own Ca (hB x d y).get) Z (Own vK (hA m f).get) W
 s:Sl tm Z vK (hA m f).get W
 hl:W.heap[l]? = some (.loop rc)
 fl:iq (·=l) Z (fun b=>Own vK (hA m f).get b∨Own Ca (hB x d y).get b) W
 tr:Tr (·=l) Z1 (fun b=>OA b∨OB b) W1 Z (fun b=>Own vK (hA m f).get b∨Own Ca (hB x d y).get b) W
 a0:a.tmps.getD 0 undef=.func (.yield l) #[] #[]
 b0:B0≤W.heap.size
theorem acL{W:World}{x y:ab}{d:ak}{v:Value}(g:Good Z Ca (hB x d y).get W B0 O)(hr:aA Z Ca (hB x d y).get W (.ref 20004 0 0 0) v):∃V,(Instr.loadAt 40 v).run Tryz.prog W=.ok V W∧∀ψ h,aA Z ψ h W (b6 bj y) V:=by
 have hb:(hB x d y).get 20004=some (.box 40 (enc bj y)):=rfl;obtain⟨q,vs,e1,e2,e3,e4⟩:=g.box _ _ _ hb;simp only[aA]at hr;obtain⟨ad,rfl,h2⟩:=hr;have h3:=h2 (by rw[hb];simp);rw[e1]at h3;have h3:ad=⟨q,0,none⟩:=h3;subst h3;obtain⟨V,h4,h5⟩:=kA (P:=Tryz.prog) (t:=40) (a:=⟨q,0,none⟩) (x:=b6 bj y) e3 (fun j u hu=>by
  rw[ct,Nat.zero_add]
  grind [World.cell?]) (by kernel_rfl)
 exact⟨V,h4,fun ψ h=>h5.move (p:=fun _=>False) (fun _ h=>h) (cv.refl _ _) (fun _ k=>k.elim) (pI _ bj y)⟩
structure Itr(W1:World)(Z1:Nat→Prop)(OA OB:Nat→Prop)(B0:Nat)(O:Nat→Prop)(l:Nat)(rc:Loop)(tm:Array Value)(m:Tm)(f:List ab)(Z:Nat→Prop)(vK:Nat→Value)(W:World):Prop where
 gA:Good Z vK (hA m f).get W B0 O
 s:Sl tm Z vK (hA m f).get W
 hl:W.heap[l]? = some (.loop rc)
 tr:Tr (·=l) Z1 (fun b=>OA b∨OB b) W1 Z (Own vK (hA m f).get) W
theorem Zp(n:Nat){W1:World}{m:Tm}{f:List ab}{x:ab}{d:ak}{l D:Nat}{fn:FuncId}{tm:Array Value}{px pd:Value}(wf:Wf d)(hx:x∈an d.1) (gA:Good Z vK (hA m f).get W1 B0 O) (gB:Good Z Ca (hU x d).get W1 B0 O) (ap:iq (Own Ca (hU x d).get) Z (Own vK (hA m f).get) W1) (hB0:B0≤W1.heap.size) (s:Sl tm Z vK (hA m f).get W1) (rx:aA Z Ca (hU x d).get W1 (.ref 20002 0 0 0) px) (rd:aA Z Ca (hU x d).get W1 (.ref 20003 0 0 0) pd) (hl:W1.heap[l]? = some (.loop (oU .ready fn tm D))) (fl:iq (·=l) Z (fun b=>Own vK (hA m f).get b∨Own Ca (hU x d).get b) W1) (hf:f.length+(bp d x).length≤fB) :
  CallsIn (FW none) n Tryz.prog 234 #[.func (.yield l) #[] #[],px,pd] W1 fun e W'=>(∃v,e=.returned v)∧∃Z' ψ',Itr W1 Z (Own vK (hA m f).get) (Own Ca (hU x d).get) B0 O l (oU .ready fn tm D) tm (tell m (bp d x)) (f++bp d x) Z' ψ' W':=by
 obtain⟨r0,htr,Fq,bz,hcy⟩:=Ez wf hx;refine callsIn_of_wp Tryz.func234 Zn trivial ?_ rfl;obtain⟨FL,PW⟩:∃t:Array Value,t=#[.func (.yield l) #[] #[],px,pd]++Array.replicate (Tryz.f234.ntmps-(#[.func (.yield l) #[] #[],px,pd]:Array Value).size) undef:=⟨_,rfl⟩;rw[←PW];have hs0:FL.size=23:=by simp_all
 have e0:FL.getD 0 undef=.func (.yield l) #[] #[]:=by rw[PW];simp
 have e1:FL.getD 1 undef=px:=by rw[PW];simp
 have e2:FL.getD 2 undef=pd:=by rw[PW];simp
 have t0:cX Z Ca (hU x d).get W1 23 (look (aw U0 ((),(((x,()),((d,()),())),()))).tmps) { tmps:=FL,defers:=[] }:=by
  refine fD (fun p hp=>?_) hs0 rfl;have hp:p∈[(1,AV.ref 20002 0 0 0),(2,AV.ref 20003 0 0 0)]:=hp
  grind
 have zA:∀b,Z b→¬Own vK (hA m f).get b:=fun b hb=>(gA.zA b hb).2;have zl:∀b,Z b→¬b=l:=fun b hb e=>(fl l rfl).2.1 (e▸hb);refine wpIn_seq ?_;refine wpIn_mono (eJ rC (u0 F1 x d) none n [] (Good.start gB) t0) ?_;rintro e a1 W2 ⟨rfl,a2,rfl,k1,jt,Z1,oX,acH,Zo,t1⟩;obtain⟨Z2,eY,Fc,t2⟩:=gW acH Zo t1;have gB2:Good Z2 eY (hB x d x).get W2 B0 O:=Fc.Oe gB hB0;have tr2:Tr (fun _=>False) Z (Own Ca (hU x d).get) W1 Z2 (Own eY (hB x d x).get) W2:=Fc.tr;have fA:iq (Own vK (hA m f).get) Z (Own Ca (hU x d).get) W1:=fun b hb=>⟨gA.bQ hb,fun hz=>zA b hz hb,fun h2=>(ap b h2).2.2 hb⟩;have gA2:Good Z2 vK (hA m f).get W2 B0 O:=tr2.part (fun b hb=>(gB.zA b hb).2) gA fA (fun _ _ h=>h) gB2.kz;obtain⟨fA2,_⟩:=tr2.free fA fun _ _ h=>h;have ap2:iq (Own eY (hB x d x).get) Z2 (Own vK (hA m f).get) W2:=fun b hb=>⟨gB2.bQ hb,fun hz=>(gB2.zA b hz).2 hb,fun h2=>(fA2 b h2).2.2 hb⟩;have sm2:cv Z W1 W2:=tr2.same gB.zA fun _ _ h=>h;have s2:Sl tm Z2 vK (hA m f).get W2:=⟨s.n,s.t4.less Fc.gG sm2 fun i hi=>⟨hi,rfl⟩,s.t7.less Fc.gG sm2 fun i hi=>⟨hi,rfl⟩⟩;obtain⟨WL,vU⟩:=(tr2.beside (Own vK (hA m f).get)).free (X:=(·=l)) (fun b hb=>⟨(fl b hb).1,(fl b hb).2.1,fun h=>(fl b hb).2.2 h.symm⟩) fun _ _ h=>h;rw[dX];refine wpIn_block ?_;have start:Bt W1 Z (Own vK (hA m f).get) (Own Ca (hU x d).get) B0 O l (oU .ready fn tm D) tm m f x d x Z2 vK eY a2 W2 :=⟨gA2,gB2,ap2,s2,(vU l rfl).trans hl,fun b hb=>⟨(WL b hb).1,(WL b hb).2.1,fun h=>(WL b hb).2.2 h.symm⟩,(tr2.beside (Own vK (hA m f).get)).less (fun b h=>h.symm) (fun b h=>h.symm) (fun _ h=>h.elim),(k1 0 (by simp)).trans e0,acE hB0 tr2.size⟩;refine Jn (fun k a W=>∃pre y rest Z' amW ag5 b,bp d x=pre++y::rest∧k=rest.length∧Bt W1 Z (Own vK (hA m f).get) (Own Ca (hU x d).get) B0 O l (oU .ready fn tm D) tm (tell m pre) (f++pre) x d y Z' amW ag5 a W ∧ cX Z' ag5 (hB x d y).get W 23 (look (aw U1 ((b,()),(((x,()),((d,()),((y,()),()))),()))).tmps) a) (k:=r0.length) ⟨[],x,r0,Z2,vK,eY,true,htr,rfl,by rw[List.append_nil];exact start,t2⟩ ?_;rintro k a W ⟨pre,y,rest,Z3,TS,C0,bb,wL,rfl,bt,t3⟩;have hy:y∈an d.1:=bz y (by grind);have r4:aA Z3 C0 (hB x d y).get W (.ref 20004 0 0 0) (a.tmps.getD 4 undef):=t3.rep 4;obtain⟨V,hV,rV⟩:=acL bt.gB r4;have hlen:(f++pre).length+1≤fB:=by
  grind
 have rin:=WK (n-1) bt.gA bt.b0 bt.s (rV TS _) hlen bt.hl (fun b hb=>⟨(bt.fl b hb).1,(bt.fl b hb).2.1,fun h=>(bt.fl b hb).2.2 (.inl h)⟩);have FE:(Instr.yield l #[V]).run Tryz.prog W=.ok (.round l fn (tm.setIfInBounds 23 V) (r6 9) bd) W:=by have:=run_yield (P:=Tryz.prog) (args:=#[V]) bt.hl rfl;simp_all [oU]
 refine wpIn_seq (wpIn_seq ?_);refine WM n t3.size bt.a0 hV FE (rin.mono ?_);rintro e W4 ⟨rfl,Z4,PX,Mi⟩;refine⟨.bool true,rfl,?_⟩;obtain⟨b,hb⟩:∃b,b=((a.put (some 7) (.func (.yield l) #[] #[])).put (some 8) V).put (some 9) (.bool true):=⟨_,rfl⟩;rw[←hb];have other:∀i,i≠7→i≠8→i≠9→b.tmps.getD i undef=a.tmps.getD i undef:=fun i h7 h8 h9=>by rw[hb,dh _ _ (fun j hj=>by simp_all),dh _ _ (fun j hj=>by simp_all),dh _ _ (fun j hj=>by simp_all)]
 have bsz:b.tmps.size=23:=by rw[hb,cJ,cJ,cJ];exact t3.size
 have bdf:b.defers=[]:=by rw[hb,put_defers,put_defers,put_defers];exact t3.defers
 have b9:b.eval (.tmp 9)=.bool true:=by
  have:((a.put (some 7) (.func (.yield l) #[] #[])).put (some 8) V).tmps.size=23:=by grind [cJ]
  rw[hb];show(((a.put (some 7) (.func (.yield l) #[] #[])).put (some 8) V).put (some 9) (.bool true)).tmps.getD 9 undef=_;rw[iD (by omega),if_pos rfl]
 refine wpIn_cond_true b9 (wpIn_skip (wpIn_block (wpIn_seq ?_)));have z3l:∀q,Z3 q→¬q=l:=fun q hq e=>(bt.fl l rfl).2.1 (e▸hq);have bl:∀q,Own C0 (hB x d y).get q→¬q=l:=fun q hq e=>(bt.fl l rfl).2.2 (.inr (e▸hq));have gB4:Good Z4 C0 (hB x d y).get W4 B0 O:=Mi.tr.part (fun q hq=>(bt.gA.zA q hq).2) bt.gB bt.ap (fun q hq=>hq.elim (z3l q) (bl q)) Mi.g.kz;obtain⟨ap4,_⟩:=Mi.tr.free bt.ap bl;have sm4:cv Z3 W W4:=Mi.tr.same bt.gA.zA z3l;have t4:cX Z4 C0 (hB x d y).get W4 23 (look (aw U1 ((bb,()),(((x,()),((d,()),((y,()),()))),()))).tmps) b:=by
  have up:∀i v,i≠7→i≠8→i≠9→look (aw U1 ((bb,()),(((x,()),((d,()),((y,()),()))),()))).tmps i=v→aA Z4 C0 (hB x d y).get W4 v (b.tmps.getD i undef):=fun i v h7 h8 h9 e=>by rw[other i h7 h8 h9,←e];exact(t3.rep i).less Mi.tr.gG sm4 fun j hj=>⟨hj,rfl⟩
  refine fD (fun p hp=>?_) bsz bdf;have hp:p∈[(5,AV.bool bb),(1,AV.ref 20002 0 0 0),(2,AV.ref 20003 0 0 0),(4,AV.ref 20004 0 0 0)]:=hp;simp only[List.mem_cons,List.not_mem_nil,or_false]at hp;rcases hp with rfl|rfl|rfl|rfl
  ·exact up 5 _ (by decide) (by decide) (by decide) rfl
  ·exact up 1 _ (by decide) (by decide) (by decide) rfl
  ·exact up 2 _ (by decide) (by decide) (by decide) rfl
  ·exact up 4 _ (by decide) (by decide) (by decide) rfl
 have hB4:B0≤W4.heap.size:=acE bt.b0 Mi.tr.size;have amX:F1 235 GZ ((d,((y.1,y.2),())),())=some ((ph d y,(true,())),()):=by have:=WI rfl (agR hg0 d y wf);rw[L3 wf hy]at this;exact this
 have hn:=(u2 F1 bb x y d).trans (aa amX rfl);have run:=eJ rC hn none n [] (Good.start gB4) t4;rw[dX]at run;refine wpIn_mono run ?_;clear run;rintro e a5 W5 ⟨rfl,a6,rfl,k6,st6,Z6,ψ6,acJ,ok6,t6⟩;refine wpIn_seq ?_;refine wpIn_mono (eJ rC acJ none n [] ok6 t6) ?_;rintro e a7 W7 ⟨rfl,a8,rfl,k8,st8,Z8,ψ8,amY,ok8,t8⟩;obtain⟨Z9,ψ9,ok9,t9⟩:=gW amY ok8 t8;rw[dX];have gB9:Good Z9 ψ9 (hB x d (ph d y)).get W7 B0 O:=ok9.Oe gB4 hB4;have tr9:Tr (fun _=>False) Z4 (Own C0 (hB x d y).get) W4 Z9 (Own ψ9 (hB x d (ph d y)).get) W7:=ok9.tr;have fA4:iq (Own PX (hA (qi (tell m pre) y) (f++pre++[y])).get) Z4 (Own C0 (hB x d y).get) W4:=fun q hq=>⟨Mi.g.bQ hq,fun hz=>(Mi.g.zA q hz).2 hq,fun h2=>(ap4 q h2).2.2 hq⟩;have gA9:Good Z9 PX (hA (qi (tell m pre) y) (f++pre++[y])).get W7 B0 O:=tr9.part (fun q hq=>(gB4.zA q hq).2) Mi.g fA4 (fun _ _ h=>h) gB9.kz;obtain⟨fA9,_⟩:=tr9.free fA4 fun _ _ h=>h;have ap9:iq (Own ψ9 (hB x d (ph d y)).get) Z9 (Own PX (hA (qi (tell m pre) y) (f++pre++[y])).get) W7:=fun q hq=>⟨gB9.bQ hq,fun hz=>(gB9.zA q hz).2 hq,fun h2=>(fA9 q h2).2.2 hq⟩;have sm9:cv Z4 W4 W7:=tr9.same gB4.zA fun _ _ h=>h;have s9:Sl tm Z9 PX (hA (qi (tell m pre) y) (f++pre++[y])).get W7:=⟨Mi.s.n,Mi.s.t4.less ok9.gG sm9 fun i hi=>⟨hi,rfl⟩,Mi.s.t7.less ok9.gG sm9 fun i hi=>⟨hi,rfl⟩⟩;have trB:Tr (·=l) Z1 (fun q=>Own vK (hA m f).get q∨Own Ca (hU x d).get q) W1 Z1 (fun q=>Own vK (hA m f).get q∨Own Ca (hU x d).get q) W1:=Tr.refl;have tr4:Tr (·=l) Z (fun q=>Own vK (hA m f).get q∨Own Ca (hU x d).get q) W1 Z9 (fun q=>Own PX (hA (qi (tell m pre) y) (f++pre++[y])).get q∨Own ψ9 (hB x d (ph d y)).get q) W7 :=(bt.tr.trans (Mi.tr.beside _)).trans ((tr9.beside (Own PX (hA (qi (tell m pre) y) (f++pre++[y])).get)).less (fun q h=>h.symm) (fun q h=>h.symm) (fun _ h=>h.elim));have fl4:iq (·=l) Z4 (fun q=>Own PX (hA (qi (tell m pre) y) (f++pre++[y])).get q∨Own C0 (hB x d y).get q) W4:=fun q hq=>by
  have hq:q=l:=hq;subst hq;have h0:=bt.fl q rfl;refine⟨ads h0.1 Mi.tr.size,fun hz=>?_,fun ho=>?_⟩
  ·rcases Mi.tr.fj q hz with e|e|e
   ·exact h0.2.1 e
   ·simp_all
   omega
  ·rcases ho with ho|ho
   ·rcases Mi.tr.own q ho with e|e
    ·simp_all
    omega
   simp_all
 obtain⟨fl9,hl9⟩:=(tr9.beside (Own PX (hA (qi (tell m pre) y) (f++pre++[y])).get)).free (X:=(·=l)) (fun q hq=>⟨(fl4 q hq).1,(fl4 q hq).2.1,fun h=>(fl4 q hq).2.2 h.symm⟩) fun _ _ h=>h;have a8z:a8.tmps.getD 0 undef=.func (.yield l) #[] #[]:=(k8 0 (by simp)).trans ((k6 0 (by simp)).trans ((other 0 (by decide) (by decide) (by decide)).trans bt.a0));have ag9:W7.heap[l]? = some (.loop (oU .ready fn tm D)):=(hl9 l rfl).trans Mi.l;have h22:a8.eval (.tmp 22)=.bool (((((ph d y).1.1==x.1.1)&&((ph d y).1.2==x.1.2))&&((ph d y).2==x.2))):=t9.rep 22;have aha:qi (tell m pre) y=tell m (pre++[y]):=(Sx m pre y).symm;have am2:f++pre++[y]=f++(pre++[y]):=List.append_assoc _ _ _;rw[aha,am2]at gA9 ap9 s9 tr4 fl9;have hp:Path (ph d) (pre++y::rest) x:=by rw[←wL,htr];exact hcy
 have hpy:ph d y=rest.head?.getD x:=(Path.app.1 hp).2.1;rw[lO]at h22
 cases rest with
 |nil =>
  have e:ph d y=x:=hpy;refine wpIn_cond_true (h22.trans (congrArg Value.bool (decide_eq_true e))) (wpIn_ret ?_);have xu:(results Tryz.f234 a8.tmps).run Tryz.prog W7=.ok (.tuple #[]) W7:=by
   have hr:Tryz.f234.results=#[]:=by kernel_rfl
   grind [results_none]
  refine⟨t9.defers,_,xu,⟨_,rfl⟩,Z9,PX,?_⟩;rw[wL];exact⟨gA9,s9,ag9,tr4.less (fun _ h=>h) (fun q h=>.inl h) fun _ h=>h⟩
 |cons y' r =>
  have e:ph d y=y':=hpy;have bB:ph d y≠x:=fun k=>by
   rw[htr]at wL;have acN:=Fq;rw[wL]at acN;have h1:x∈pre++[y]:=by
    cases pre with
    |nil=>grind
    |cons q t=>simp at wL;simp[wL.1]
   rw[show pre++y::y'::r=(pre++[y])++y'::r by simp]at acN;exact(adw.1 acN).2.2 x h1 y' ab4 (k.symm.trans e)
  refine wpIn_cond_false (h22.trans (congrArg Value.bool (decide_eq_false bB))) (wpIn_skip ?_);rw[e]at gB9 ap9 tr4 fl9 t9;refine⟨r.length,by simp,pre++[y],y',r,Z9,PX,ψ9,true,by rw[wL];simp,rfl,⟨gA9,gB9,ap9,s9,ag9,fun q hq=>⟨(fl9 q hq).1,(fl9 q hq).2.1,fun h=>(fl9 q hq).2.2 h.symm⟩,tr4,a8z,acE hB4 tr9.size⟩,?_⟩;refine fD (fun p hp=>?_) t9.size t9.defers;have hp:p∈[(5,AV.bool true),(1,AV.ref 20002 0 0 0),(2,AV.ref 20003 0 0 0),(4,AV.ref 20004 0 0 0)]:=hp;simp only[List.mem_cons,List.not_mem_nil,or_false]at hp;rcases hp with rfl|rfl|rfl|rfl
  ·exact t9.rep 5
  ·exact t9.rep 1
  ·exact t9.rep 2
  ·exact t9.rep 4
end Go.Vs
namespace Go.Vs
open Go.Proofs Go.Cy
variable {Z Z' Z0:Nat→Prop} {ψ ψ' ψ0 vK Ca:Nat→Value} {h h':Hp} {w w' w0:World} {B0:Nat} {O N:Nat→Prop}
abbrev Fe:Nat→Prop:=fun _=>False
def X5(D:Nat):Deferred:={ target:=.collected D,args:=#[] }
structure MsX(Z0:Nat→Prop)(w0:World)(Ds:List Nat)(sh:Shape)(x:sh.T)(a:Act)(W:World)(a0:Act)(Z:Nat→Prop)(ψ:Nat→Value):Prop where
 e:a=mf (Ds.map X5) a0
 wk:Wk Z0 w0 Fe Z W
 g:Good Z ψ (aw sh x).heap.get W w0.heap.size Fe
 t:cX Z ψ (aw sh x).heap.get W 36 (look (aw sh x).tmps) a0
 nd:Ds.Nodup
 m:∀D,D∈Ds→W.heap[D]? = some (.deferred (some []))∧w0.heap.size≤D
 fr:iq (·∈Ds) Z (Own ψ (aw sh x).heap.get) W
def Ms(Z0:Nat→Prop)(w0:World)(Ds:List Nat)(sh:Shape)(x:sh.T)(a:Act)(W:World):Prop:=∃a0 Z ψ,MsX Z0 w0 Ds sh x a W a0 Z ψ
variable {Ds:List Nat} {sh sh':Shape} {x:sh.T} {x':sh'.T} {a:Act} {W:World}
theorem Jo{c:Code}{R:Type}{kk:St→Option R}{y:R}(hx:rn F1 36 [] c (aw sh x) kk=some y)(n:Nat){a0:Act}(s:MsX Z0 w0 Ds sh x a W a0 Z ψ) :
  c.wpIn (FW none) n Tryz.prog (Aft 36 [] (fun d=>a0.tmps.getD d undef) (Ds.map X5) kk y Z W (Own ψ (aw sh x).heap.get) ψ) a W:=by
 rw[s.e];exact eJ rC hx none n _ (Good.start s.g) s.t
theorem Oi{st:St}{a1:Act}{W':World}(s:MsX Z0 w0 Ds sh x a W a1 Z ψ)(vQ:cO sh' st=some x'){ψ':Nat→Value}{Z':Nat→Prop}{a2:Act}(ok:Ok Z W (Own ψ (aw sh x).heap.get) ψ Z' ψ' st.heap.get W')(t:cX Z' ψ' st.heap.get W' 36 (look st.tmps) a2):Ms Z0 w0 Ds sh' x' (mf (Ds.map X5) a2) W':=by obtain⟨Z2,eY,Fc,t2⟩:=gW vQ ok t;obtain⟨f1,f2⟩:=(Fc.tr (L:=Fe)).free s.fr fun _ _ h=>h;exact⟨a2,Z2,eY,rfl,s.wk.step (Fc.tr (L:=Fe)) s.g.from (fun _ h=>h.elim),Fc.Oe s.g s.wk.size,t2,s.nd,fun D hD=>⟨(f2 D hD).trans (s.m D hD).1,(s.m D hD).2⟩,f1⟩
theorem EN{c:Code}(hx:rn F1 36 [] c (aw sh x) (cO sh')=some x')(n:Nat)(s:Ms Z0 w0 Ds sh x a W):c.wpIn (FW none) n Tryz.prog (fun e a' W'=>e=.normal∧Ms Z0 w0 Ds sh' x' a' W') a W:=by obtain⟨a0,Z,ψ,s⟩:=s;refine wpIn_mono (Jo hx n s) ?_;rintro e a1 W1 ⟨rfl,a2,rfl,_,st,Z1,oX,vQ,ok,t⟩;exact⟨rfl,Oi s vQ ok t⟩
theorem PY{c c':Code}(hx:(rn F1 36 [] c (aw sh x) fun st=>rn F1 36 [] c' st (cO sh'))=some x')(n:Nat)(s:Ms Z0 w0 Ds sh x a W) :
  c.wpIn (FW none) n Tryz.prog (fun e a' W'=>e=.normal∧c'.wpIn (FW none) n Tryz.prog (fun e a' W'=>e=.normal∧Ms Z0 w0 Ds sh' x' a' W') a' W') a W:=by
 obtain⟨a0,Z,ψ,s⟩:=s;refine wpIn_mono (Jo hx n s) ?_;rintro e a1 W1 ⟨rfl,a2,rfl,_,st,Z1,oX,vQ,ok,t⟩;refine⟨rfl,wpIn_mono (eJ rC vQ none n _ ok t) ?_⟩;rintro e a3 W3 ⟨rfl,a4,rfl,_,st3,Z3,TS,acO,Zq,t3⟩;exact⟨rfl,Oi s acO Zq t3⟩
abbrev hC(d:ak)(out:List (List ab))(l:List ab):Heap:=[(20004,.box 27 (enc dK d))]++sK rws ((out,(l,())):MS (rws.map (·.2.2)))
theorem Cb{i:Nat}{v:Value}(hr:aA Z ψ h w (.bN i) v)(hi:h' i≠none→h i≠none∧ψ' i=ψ i):aA Z' ψ' h' w' (.bN i) v:=by
 grind [aA]
theorem EO{m:Tm}{f:List ab}{i:Nat}(h:(hA m f).get i≠none):i=20000∨i=9000∨i=20001∨i=9016:=by
 have e:hA m f=[(20000,.box 201 [.bN 9000]),(9000,.own (.map bj .bool) m),(20001,.box 36 [.bN 9016]),(9016,.own (.row 40 bj) f)]:=rfl;rw[e]at h;simp only[Heap.get]at h
 grind
theorem Jp{x:ab}{d:ak}{i:Nat}(h:(hU x d).get i≠none):i=20002∨i=20003:=by
 have e:hU x d=[(20002,.box 40 (enc bj x)),(20003,.box 27 (enc dK d))]:=rfl;rw[e]at h;simp only[Heap.get]at h
 grind
theorem EP{d:ak}{out:List (List ab)}{l:List ab}{i:Nat}(h:(hC d out l).get i≠none):i=20004∨i=31000∨i=31001:=by
 have e:hC d out l=[(20004,.box 27 (enc dK d)),(31000,.own (.row 36 (.sl bj)) out),(31001,.own (.row 40 bj) l)]:=rfl;rw[e]at h;simp only[Heap.get]at h
 grind
theorem Ac{a b:Heap}{i:Nat}{o:Ob}(h:a.get i=some o):(a++b).get i=some o:=by rw[Heap.get_append,h]
theorem Ad{a b:Heap}{i:Nat}(h:a.get i=none):(a++b).get i=b.get i:=by rw[Heap.get_append,h]
theorem Jq{h:Hp}{i:Nat}(k:h i≠none→False):h i=none:=by simp_all
theorem ER{a b c:Heap}(g:Good Z ψ c.get w B0 O)(sa:∀i o,a.get i=some o→c.get i=some o)(sb:∀i o,b.get i=some o→c.get i=some o)(dis:∀i,a.get i≠none→b.get i≠none→False):iq (Own ψ b.get) Z (Own ψ a.get) w:=by
 have up:∀{e:Heap} (se:∀i o,e.get i=some o→c.get i=some o) {i},e.get i≠none→c.get i≠none:=fun {e} se {i} hi=>by obtain⟨o,ho⟩:=abS.1 hi;simp_all
 rintro q ⟨i,h1,h2⟩;refine⟨g.bQ ⟨i,up sb h1,h2⟩,(g.live i q (up sb h1) h2).1,?_⟩;rintro⟨j,h3,h4⟩;have e:=g.apart i j q (up sb h1) (up sa h3) h2 h4;simp_all
end Go.Vs
namespace Go.Vs
open Go.Proofs Go.Cy
variable {Z Z' Z0:Nat→Prop} {ψ ψ' ψ0 vK Ca:Nat→Value} {h h':Hp} {w w' w0:World} {B0:Nat} {O N:Nat→Prop}
variable {Ds:List Nat} {a:Act} {W:World}
abbrev x3(n i:Int)(m:Tm)(f:List ab)(x:ab)(d:ak)(out:List (List ab))(l:List ab):S3.T:=((n,(i,())),(((m,()),((f,()),((x,()),((d,()),((d,()),()))))),(out,(l,()))))
abbrev x12(n i:Int)(m:Tm)(f:List ab)(d:ak)(out:List (List ab))(l:List ab):S12.T:=((n,(i,())),(((m,()),((f,()),((d,()),()))),(out,(l,()))))
set_option maxRecDepth 20000 in
theorem WO(k:Nat){n i:Int}{m:Tm}{x:ab}{d:ak}{out:List (List ab)}{l:List ab}(wf:Wf d)(hx:x∈an d.1)(s:Ms Z0 w0 Ds S3 (x3 n i m [] x d out l) a W) :
  cRF.wpIn (FW none) k Tryz.prog (fun e a' W'=>e=.normal∧Ms Z0 w0 (W.heap.size::Ds) S12 (x12 n i (tell m (bp d x)) (bp d x) d out l) a' W') a W:=by
 obtain⟨a0,Z,ψ,s⟩:=s;have hH:(aw S3 (x3 n i m [] x d out l)).heap=hA m []++(hU x d++hC d out l):=rfl;have hg:=s.g;have Dc:=s.fr;have ht:=s.t;rw[hH]at hg Dc ht;have sA:∀j o,(hA m []).get j=some o→(hA m []++(hU x d++hC d out l)).get j=some o:=fun j o e=>Ac e;have nA:∀{j},j=20002∨j=20003∨j=20004∨j=31000∨j=31001→∀m f,(hA m f).get j=none:=fun {j} hj m f=>Jq fun e=>by grind [EO]
 have nU:∀{j},j=20004∨j=31000∨j=31001→(hU x d).get j=none:=fun {j} hj=>Jq fun e=>by grind [Jp]
 have sU:∀j o,(hU x d).get j=some o→(hA m []++(hU x d++hC d out l)).get j=some o:=fun j o e=>by
  have:=Jp (show(hU x d).get j≠none by rw[e];simp)
  grind [Ad,Ac]
 have sC:∀j o,(hC d out l).get j=some o→(hA m []++(hU x d++hC d out l)).get j=some o:=fun j o e=>by
  have:=EP (show(hC d out l).get j≠none by rw[e];simp)
  grind [Ad]
 have gA:=hg.sub sA;have gU:=hg.sub sU;have gC:=hg.sub sC;have fUA:iq (Own ψ (hU x d).get) Z (Own ψ (hA m []).get) W:=ER hg sA sU fun j h1 h2=>by grind [EO,Jp]
 have fCA:iq (Own ψ (hC d out l).get) Z (Own ψ (hA m []).get) W:=ER hg sA sC fun j h1 h2=>by grind [EO,EP]
 have fCU:iq (Own ψ (hC d out l).get) Z (Own ψ (hU x d).get) W:=ER hg sU sC fun j h1 h2=>by grind [Jp,EP]
 have h22:=ht.rep 22;have e22:look (aw S3 (x3 n i m [] x d out l)).tmps 22=.fn 234 [.ref 20002 0 0 0,.ref 20003 0 0 0]:=rfl;rw[e22]at h22;simp only[aA,au]at h22;obtain⟨ws,hv,px,_,TV,rx,pd,_,rfl,rd,rfl⟩:=h22;have TV:ws=#[px,pd]:=Array.ext' TV;subst TV;have less:∀{hp:Heap} {v:AV} {u:Value},(∀j o,hp.get j=some o→(hA m []++(hU x d++hC d out l)).get j=some o)→aA Z ψ (hA m []++(hU x d++hC d out l)).get W v u→aA Z ψ hp.get W v u:=fun {hp v u} hs hr=>hr.oK hs;have rx:aA Z ψ (hU x d).get W (.ref 20002 0 0 0) px:=less sU (by grind [aA]);have rd:aA Z ψ (hU x d).get W (.ref 20003 0 0 0) pd:=less sU (by grind [aA]);have sl:Sl a0.tmps Z ψ (hA m []).get W:=⟨ht.size,less sA (ht.rep 4),less sA (ht.rep 7)⟩;rw[s.e];refine wpIn_rangeFunc ?_;intro fn _;obtain⟨D,hD⟩:∃D,D=W.heap.size:=⟨_,rfl⟩;obtain⟨W1,G9⟩:∃W1,W1=(W.alloc (.deferred (some []))).alloc (.loop (oU .ready fn a0.tmps D)):=⟨_,rfl⟩;have iY:W1.heap.size=D+2:=by rw[G9,hD];simp
 have cI:∀b,b<W.heap.size→W1.heap[b]? = W.heap[b]? := fun b hb=>by
  grind [heap_alloc_old,World.size_alloc]
 have hL1:W1.heap[D+1]? = some (.loop (oU .ready fn a0.tmps D)):=by
  grind [World.alloc_heap_new,oU,World.size_alloc]
 have hD1:W1.heap[D]? = some (.deferred (some [])):=by
  grind [heap_alloc_old,World.size_alloc,World.alloc_heap_new]
 have lift:∀{hp:Heap} {ψ:Nat→Value},Good Z ψ hp.get W w0.heap.size Fe→Good Z ψ hp.get W1 w0.heap.size Fe:=fun {hp ψ} g=>g.same (fun _ h=>h) (fun b hb=>cI b (hb.elim (g.kz b) g.bQ)) (fun b hb hz=>(g.zA b hz).2 hb) fun b hb=>by have:=g.kz b hb;omega
 have sm1:cv Z W W1:=fun b hb=>cI b (hg.kz b hb);have gA1:=lift gA;have gU1:=lift gU;have gC1:=lift gC;have up:∀{X A:Nat→Prop},iq X Z A W→iq X Z A W1:=fun {X A} f b hb=>⟨by have:=(f b hb).1;omega,(f b hb).2⟩;have sl1:Sl a0.tmps Z ψ (hA m []).get W1:=⟨sl.n,sl.t4.less (fun _ h=>h) sm1 fun j hj=>⟨hj,rfl⟩,sl.t7.less (fun _ h=>h) sm1 fun j hj=>⟨hj,rfl⟩⟩;have fresh:∀{hp:Heap} {b:Nat},Good Z ψ hp.get W w0.heap.size Fe→W.heap.size≤b→¬Z b∧¬Own ψ hp.get b:=fun {hp b} g hb=>⟨fun hz=>by have:=g.kz b hz;omega,fun ho=>by have:=g.bQ ho;omega⟩;have fl0:∀b,D≤b→b<D+2→b<W1.heap.size∧¬Z b∧¬(Own ψ (hA m []).get b∨Own ψ (hU x d).get b):=fun b h1 h2 =>⟨by omega,(fresh gA (by omega)).1,fun h=>h.elim (fresh gA (by omega)).2 (fresh gU (by omega)).2⟩;have fl1:iq (·=D+1) Z (fun b=>Own ψ (hA m []).get b∨Own ψ (hU x d).get b) W1:=fun b hb=>fl0 b (by omega) (by omega);have hlen:([]:List ab).length+(bp d x).length≤fB:=by grind [Hf,fB]
 have it:=Zp (k-1) wf hx gA1 gU1 (up fUA) (by rw[iY,hD];have:=s.wk.size;omega) sl1 (rx.less (fun _ h=>h) sm1 fun j hj=>⟨hj,rfl⟩) (rd.less (fun _ h=>h) sm1 fun j hj=>⟨hj,rfl⟩) hL1 fl1 hlen;refine⟨D+1,[X5 D],W1,{ target:=.fn (.func 234) #[px,pd],args:=#[.func (.yield (D+1)) #[] #[]] },W1,234,#[.func (.yield (D+1)) #[] #[],px,pd],W1,?_,?_,fun _ _=>trivial,?_,fun h=>(by cases h),?_⟩
 ·rw[G9,hD];exact run_enterLoop_outer _ _ _ _ _
 ·rw[wK];have BL:a0.eval (.tmp 22)=.func (.func 234) #[] #[px,pd]:=hv;simp only[Go.resolve,BL];simp[go_sem]
 ·rfl
 refine it.mono ?_;rintro e W2 ⟨⟨v,rfl⟩,Z2,eY,Sy⟩;refine⟨none,_,run_endLoop Sy.hl (by simp[oU]),rfl,?_⟩;have tA:∀{X},iq X Z (fun b=>Own ψ (hA m []).get b∨Own ψ (hU x d).get b) W1→iq X Z2 (Own eY (hA (tell m (bp d x)) ([]++bp d x)).get) W2:=fun {X} f=>Sy.tr.Mg f;rw[List.nil_append]at Sy;have fC1:iq (Own ψ (hC d out l).get) Z (fun b=>Own ψ (hA m []).get b∨Own ψ (hU x d).get b) W1:=fun b hb=>⟨(up fCA b hb).1,(up fCA b hb).2.1,fun h=>h.elim (fCA b hb).2.2 (fCU b hb).2.2⟩;have cD:∀b,Own ψ (hC d out l).get b→b<D:=fun b hb=>by grind
 have zD:∀b,Z b→b<D:=fun b hb=>by grind
 have gA2:=Sy.gA;have gC2:Good Z2 ψ (hC d out l).get W2 w0.heap.size Fe:=Sy.tr.part (fun b hb h=>h.elim (gA.zA b hb).2 (gU.zA b hb).2) gC1 fC1 (fun b hb e=>by grind) gA2.kz;have apC:iq (Own ψ (hC d out l).get) Z2 (Own eY (hA (tell m (bp d x)) (bp d x)).get) W2:=Sy.tr.Mg fC1;have WL:iq (·=D+1) Z2 (Own eY (hA (tell m (bp d x)) (bp d x)).get) W2:=Sy.tr.Mg fl1;have flC:iq (·=D+1) Z2 (Own ψ (hC d out l).get) W2:=fun b hb=>⟨(WL b hb).1,(WL b hb).2.1,fun h=>by grind⟩;have gA3:=gA2.putObj (o':=.loop { oU .ready fn a0.tmps D with state:=.exhausted }) WL;have gC3:=gC2.putObj (o':=.loop { oU .ready fn a0.tmps D with state:=.exhausted }) flC;obtain⟨W3,hW3⟩:∃W3,W3=W2.putObj (D+1) (.loop { oU .ready fn a0.tmps D with state:=.exhausted }):=⟨_,rfl⟩;rw[←hW3]at gA3 gC3 ⊢;have sm3:cv Z2 W2 W3:=by grind [oz]
 have aoW:W3.heap.size=W2.heap.size:=by rw[hW3];simp
 have dis:∀j,(hA (tell m (bp d x)) (bp d x)).get j≠none→(hC d out l).get j=none:=fun j hj=>Jq fun e=>by have:=EO hj;grind [EP]
 have apJ:∀q,Own eY (hA (tell m (bp d x)) (bp d x)).get q→¬Own ψ (hC d out l).get q:=fun q h1 h2=>(apC q h2).2.2 h1;have gJ:=gA3.join gC3 dis apJ (fun j ty cs hj=>by
  have e:=EO (show(hA (tell m (bp d x)) (bp d x)).get j≠none by rw[hj];simp);rcases e with rfl|rfl|rfl|rfl
  ·cases hj
   show aC _ [.bN 9000];simp only[aC,aL];exact⟨fun k=>(by cases k),trivial⟩
  ·cases hj
  ·cases hj
   show aC _ [.bN 9016];simp only[aC,aL];exact⟨fun k=>(by cases k),trivial⟩
  ·cases hj) (fun j ty cs hj=>by
  have e:=EP (show(hC d out l).get j≠none by rw[hj];simp);rcases e with rfl|rfl|rfl
  ·cases hj;exact tD d _
  ·cases hj
  ·cases hj)
 have am6:∀b,Own (rB (hA (tell m (bp d x)) (bp d x)).get eY ψ) (hA (tell m (bp d x)) (bp d x)++hC d out l).get b→Own eY (hA (tell m (bp d x)) (bp d x)).get b∨Own ψ (hC d out l).get b:=fun b ⟨j,h1,h2⟩=>by
  by_cases e:(hA (tell m (bp d x)) (bp d x)).get j=none
  ·rw[Ad e]at h1;rw[qg e]at h2;exact .inr ⟨j,h1,h2⟩
  ·rw[qf e]at h2;exact .inl ⟨j,e,h2⟩
 refine⟨a0,Z2,rB (hA (tell m (bp d x)) (bp d x)).get eY ψ,?_,?_,?_,?_,?_,?_,?_⟩
 ·show({ mf (Ds.map X5) a0 with defers:=[X5 D]++(mf (Ds.map X5) a0).defers }:Act)=mf ((W.heap.size::Ds).map X5) a0;unfold mf;rw[ht.defers,←hD];rfl
 ·have o1:∀q,(Own ψ (hA m []).get q∨Own ψ (hU x d).get q)→w0.heap.size≤q∨Fe q:=fun q h=>h.elim (gA.from q) (gU.from q);have w1:Wk Z0 w0 Fe Z W1:=s.wk.step (A:=fun q=>Own ψ (hA m []).get q∨Own ψ (hU x d).get q) (B:=fun q=>Own ψ (hA m []).get q∨Own ψ (hU x d).get q) (L:=Fe) (Tr.cp (by rw[G9];rfl) (by rw[G9];rfl) (by rw[G9];rfl) (by omega) fun b hb _=>cI b hb) o1 fun _ h=>h.elim;have hDl:∀b,b=D+1→w0.heap.size≤b:=fun b hb=>by have:=s.wk.size;omega
  have w2:=w1.step Sy.tr o1 hDl;rw[hW3];exact w2.step Ab gA2.from hDl
 ·exact gJ
 ·have q1:∀{j},(j=20000∨j=20001)→(hA (tell m (bp d x)) (bp d x)).get j≠none:=fun {j} hj=>by rcases hj with rfl|rfl<;>(intro k;cases k)
  have rA:∀{j u},(j=20000∨j=20001)→aA Z2 eY (hA (tell m (bp d x)) (bp d x)).get W2 (.ref j 0 0 0) u→aA Z2 (rB (hA (tell m (bp d x)) (bp d x)).get eY ψ) (hA (tell m (bp d x)) (bp d x)++hC d out l).get W3 (.ref j 0 0 0) u:=fun {j u} hj hr =>Jl (fun _ h=>h) hr fun _=>⟨q1 hj,qf (q1 hj)⟩;have cN:∀{j},(j=20004∨j=31000∨j=31001)→(hA m []++(hU x d++hC d out l)).get j≠none∧rB (hA (tell m (bp d x)) (bp d x)).get eY ψ j=ψ j:=fun {j} hj=>by
   have e1:(hC d out l).get j≠none:=by rcases hj with rfl|rfl|rfl<;>(intro k;cases k)
   obtain⟨o,ho⟩:=abS.1 e1;exact⟨by grind,qg (nA (by omega) _ _)⟩
  refine fD (fun p hp=>?_) ht.size ht.defers;have hp:p∈[(12,AV.int .i64 n),(13,AV.int .i64 i),(4,AV.ref 20000 0 0 0),(7,AV.ref 20001 0 0 0),(1,AV.ref 20004 0 0 0),(3,AV.bN 31000),(11,AV.bN 31001)]:=hp;simp only[List.mem_cons,List.not_mem_nil,or_false]at hp;rcases hp with rfl|rfl|rfl|rfl|rfl|rfl|rfl
  ·exact ht.rep 12
  ·exact ht.rep 13
  ·exact rA (.inl rfl) Sy.s.t4
  ·exact rA (.inr rfl) Sy.s.t7
  ·exact Jl (fun b hb=>Sy.tr.gG b hb) (ht.rep 1) fun _=>cN (.inl rfl)
  ·exact Cb (ht.rep 3) fun _=>cN (.inr (.inl rfl))
  ·exact Cb (ht.rep 11) fun _=>cN (.inr (.inr rfl))
 ·refine ab1.2 ⟨fun hm=>?_,s.nd⟩;have:=(Dc _ hm).1;omega
 ·have keep:∀b,b<D+1→b<W1.heap.size→¬(Own ψ (hA m []).get b∨Own ψ (hU x d).get b)→W3.heap[b]? = W1.heap[b]? := fun b h1 h2 h3=>by rw[hW3,World.putObj_heap_other (by omega)];exact Sy.tr.block b h2 h3 (by omega)
  intro q hq;rcases abD.1 hq with rfl|hq
  ·refine⟨?_,s.wk.size⟩;rw[←hD];exact(keep D (by omega) (by omega) (fl0 D (by omega) (by omega)).2.2).trans hD1
  ·have h0:=Dc q hq;refine⟨?_,(s.m q hq).2⟩;have own:∀{hp:Heap},(∀j o,hp.get j=some o→(hA m []++(hU x d++hC d out l)).get j=some o)→¬Own ψ hp.get q:=fun {hp} hs ⟨j,h1,h2⟩=>h0.2.2 ⟨j,(by obtain⟨o,ho⟩:=abS.1 h1;rw[hs _ _ ho];simp),h2⟩;rw[keep q (by omega) (by omega) (fun h=>h.elim (own sA) (own sU)),cI q h0.1];exact(s.m q hq).1
 ·intro q hq;have base:q<W1.heap.size∧¬Z q∧¬(Own ψ (hA m []).get q∨Own ψ (hU x d).get q)∧¬Own ψ (hC d out l).get q:=by
   rcases abD.1 hq with rfl|hq
   ·grind
   ·have h0:=Dc q hq;have own:∀{hp:Heap},(∀j o,hp.get j=some o→(hA m []++(hU x d++hC d out l)).get j=some o)→¬Own ψ hp.get q:=fun {hp} hs ⟨j,h1,h2⟩=>h0.2.2 ⟨j,(by obtain⟨o,ho⟩:=abS.1 h1;rw[hs _ _ ho];simp),h2⟩;exact⟨by omega,h0.2.1,fun h=>h.elim (own sA) (own sU),own sC⟩
  have h2:=Sy.tr.Mg (X:=(·=q)) (fun b hb=>by grind) q rfl;exact⟨by omega,h2.2.1,fun h=>(am6 q h).elim h2.2.2 base.2.2.2⟩
end Go.Vs
namespace Go.Vs
open Go.Proofs Go.Cy
variable {Z Z' Z0:Nat→Prop} {ψ ψ' ψ0 vK Ca:Nat→Value} {h h':Hp} {w w' w0:World} {B0:Nat} {O N:Nat→Prop}
theorem Ae{β α:Type}[DecidableEq β]{x z:β}{v:α}:∀{es:List (β×α)} {i:Nat},(es.findIdx? fun e=>decide (e.1=x))=some i→fF z (es.set i (x,v))=if x=z then some v else fF z es
 |[],i,h=>by simp at h
 |e::r,i,h=>by
  rw[List.findIdx?_cons]at h;by_cases he:e.1=x
  ·rw[if_pos (decide_eq_true he)]at h
   cases h
   rw[List.set_cons_zero,fF,fF];show(if x=z then some v else fF z r)=_;rw[he];by_cases k:x=z
   ·rw[if_pos k,if_pos k]
   ·rw[if_neg k,if_neg k,if_neg k]
  ·rw[if_neg (by simpa using he)]at h;obtain⟨j,hj,rfl⟩:=adj.1 h;have ih:=Ae (z:=z) (v:=v) hj;rw[List.set_cons_succ,fF,fF,ih];by_cases k:e.1=z
   ·rw[if_pos k,if_neg (fun q=>he (k.trans q.symm)),if_pos k]
   ·rw[if_neg k,if_neg k]
theorem Af{β α:Type}[DecidableEq β]{x z:β}{v:α}:∀{es:List (β×α)},(es.findIdx? fun e=>decide (e.1=x))=none→fF z (es++[(x,v)])=if x=z then some v else fF z es
 |[],_=>rfl
 |e::r,h=>by
  rw[List.findIdx?_eq_none_iff]at h;have he:e.1≠x:=by simp_all
  have ih:=Af (z:=z) (v:=v) (es:=r) (List.findIdx?_eq_none_iff.2 fun q hq=>h q (abA _ hq));rw[List.cons_append,fF,fF,ih]
  grind
theorem Sz{α:Type}(x z:ab)(v:α)(es:List (ab×α)):fF z (jN bj x v es)=if x=z then some v else fF z es:=by
 have e:=EK x es;unfold jN
 split
 ·rename_i i hi;exact Ae (e.symm.trans hi)
 ·rename_i hi;exact Af (e.symm.trans hi)
def HH(m:Tm)(T:List ab):Prop:=∀z,(fF z m).getD false=decide (z∈T)
theorem HH.tell{m:Tm}{T:List ab}(h:HH m T)(l:List ab):HH (tell m l) (T++l):=by
 induction l generalizing m T with
 |nil=>rw[List.append_nil];exact h
 |cons y r ih =>
  have h1:HH (qi m y) (T++[y]):=fun z=>by
   unfold qi;rw[Sz];by_cases k:y=z
   ·subst k;simp
   ·rw[if_neg k,h z]
    grind
  have:=ih h1;rw[List.append_assoc]at this;exact this
theorem WQ{m:Tm}{T:List ab}(h:HH m T)(y:ab):(fM bj (y.1,y.2) m).getD false=decide (y∈T):=by have:=N7 y m;show(fM bj y m).getD false=_;rw[this];exact h y
abbrev x0(n i:Int)(m:Tm)(d:ak)(out:List (List ab))(l:List ab):S0.T:=((n,(i,())),(((m,()),((d,()),())),(out,(l,()))))
theorem PZ{Ds:List Nat}{sh:Shape}{x:sh.T}{a:Act}{W:World}(s:Ms Z0 w0 Ds sh x a W){i:Nat}{b:Bool}(e:look (aw sh x).tmps i=.bool b):a.eval (.tmp i)=.bool b:=by obtain⟨a0,Z,ψ,s⟩:=s;have:=s.t.rep i;rw[e]at this;rw[s.e,wK];exact this
theorem yu{n:Nat}{fn:Func}{tmps:Array Value}{R:Ending→World→Prop}:∀(Ds:List Nat) (W:World),Ds.Nodup→(∀D,D∈Ds→W.heap[D]? = some (.deferred (some []))) →(∀W',W'.os=W.os→W'.tape=W.tape→W'.output=W.output→W'.heap.size=W.heap.size→(∀b,b∉Ds→W'.heap[b]? = W.heap[b]?)→∃v,(results fn tmps).run Tryz.prog W'=.ok v W'∧R (.returned v) W') → LeavesInM (FW none) n Tryz.prog fn tmps R (Ds.map X5) .returning W
 |[],W,_,_,h=>h W rfl rfl rfl rfl fun _ _=>rfl
 |D::Ds,W,hn,hd,h=>by
  obtain⟨h1,h2⟩:=ab1.1 hn;refine⟨by simp,.inl ⟨D,_,rfl,run_takeDeferred (hd D ab4),?_⟩⟩;refine yu Ds _ h2 (fun E hE=>?_) fun W' e1 e2 e3 e4 e5=>?_
  ·grind [World.putObj_heap_other,List.mem_cons_of_mem]
  ·refine h W' e1 e2 e3 (e4.trans (by simp)) fun b hb=>?_
   grind [List.mem_cons_of_mem,World.putObj_heap_other,List.mem_cons_self]
abbrev SN:Shape:=⟨[(0,dK)],[],[],[]⟩
theorem SA{d:ak}(wf:Wf d):GF Tryz.prog 207 AY ((d,()),()) ((bW d,()),()):=by
 intro Z ψ0 w lp hg hr;have hr:au Z ψ0 (Heap.get []) w [b6 dK d] lp:=hr;have hg:Good Z ψ0 (Heap.get []) w w.heap.size (Own ψ0 (Heap.get [])):=hg;have ES:∀b,¬Own ψ0 (Heap.get []) b:=fun b ⟨i,h1,_⟩=>h1 rfl;simp only[au]at hr;obtain⟨u0,_,rfl,hu,rfl⟩:=hr;refine yq (r:=none) (n:=5) (callsIn_of_wp_marks Tryz.func207 Zm trivial ?_ rfl);obtain⟨FL,PW⟩:∃t:Array Value,t=#[u0]++Array.replicate (Tryz.f207.ntmps-(#[u0]:Array Value).size) undef:=⟨_,rfl⟩;show Code.wpIn _ _ _ _ _ { tmps:=#[u0]++Array.replicate (Tryz.f207.ntmps-(#[u0]:Array Value).size) undef,defers:=[] } w;rw[←PW];have hs0:FL.size=36:=by simp_all
 have e0:FL.getD 0 undef=u0:=by rw[PW];simp
 have ms0:MsX Z w [] SN ((d,()),((),())) { tmps:=FL,defers:=[] } w { tmps:=FL,defers:=[] } Z ψ0:=by refine⟨rfl,Wk.start Z w Fe,hg.WH fun b h _=>(ES b h).elim,fD (fun p hp=>?_) hs0 rfl,List.nodup_nil,fun D hD=>(by cases hD),fun D hD=>(by cases hD)⟩;have hp:p∈[(0,b6 dK d)]:=hp;simp only[List.mem_cons,List.not_mem_nil,or_false]at hp;subst hp;show aA _ _ _ _ _ (FL.getD 0 undef);rw[e0];exact hu
 have am7:F1 223 xC ((d,()),())=some ((fw d.2,()),()):=WI rfl (agS hg0 d wf.sm);have hn:=(amO F1 d).trans (aa am7 rfl);refine wpIn_seq (wpIn_mono (Jo hn 5 ms0) ?_);rintro e a1 W1 ⟨rfl,a2,rfl,_,jt,Z1,oX,q1,Zo,t1⟩;refine wpIn_seq (wpIn_mono (eJ rC q1 none 5 _ Zo t1) ?_);rintro e a3 W3 ⟨rfl,a4,rfl,_,st2,Z2,eY,q2,Fc,t2⟩;refine wpIn_seq (wpIn_mono (eJ rC q2 none 5 _ Fc t2) ?_);rintro e a5 W5 ⟨rfl,a6,rfl,_,st3,Z3,TS,q3,Zq,t3⟩;refine wpIn_seq (wpIn_seq (wpIn_mono (eJ rC q3 none 5 _ Zq t3) ?_));rintro e a7 W7 ⟨rfl,a8,rfl,_,st4,Z4,C0,q4,ok4,t4⟩;have ms:=Oi ms0 q4 ok4 t4;clear q1 q2 q3 q4 Zo Fc Zq ok4 t1 t2 t3 t4;obtain⟨l,hl⟩:∃l,l=fw d.2:=⟨_,rfl⟩;rw[←hl]at ms;have hll:l.length≤80:=by rw[hl,nD];have:=wf.ne;omega
 have js:∀y,y∈l→y∈an d.1:=fun y hy=>by rw[hl,mw]at hy;exact wf.pd.mem_iff.2 hy
 refine wpIn_block ?_;refine Jn (fun k a W=>∃(i:Nat) (m:Tm) (out:List (List ab)) (T:List ab) (Ds:List Nat),i≤l.length∧k=l.length-i∧out.length≤i∧Ms Z w Ds S0 (x0 ((l.length:Nat):Int) (i:Int) m d out l) a W∧jf d (l.drop i) out T=bW d∧HH m T) (k:=l.length) ⟨0,[],[],[],[],adx _,rfl,acf _,ms,by rw[List.drop_zero,hl];rfl,fun z=>by simp[fF]⟩ ?_;rintro k a W ⟨i,m,out,T,Ds,hi,rfl,ho,ms,MF,ht⟩;refine wpIn_seq (wpIn_mono (EN (n4 F1 ((l.length:Nat):Int) (i:Int) _) 5 ms) ?_);rintro e a1 W1 ⟨rfl,ms1⟩;have h14:=PZ ms1 (i:=14) rfl;by_cases aN:i<l.length
 case neg =>
  have e:i=l.length:=by omega
  have ef:decide ((i:Int)<((l.length:Nat):Int))=false:=decide_eq_false (by omega);rw[ef]at h14;refine wpIn_seq (wpIn_cond_false h14 (wpIn_exit ?_));show Code.wpIn _ _ _ _ _ _ _;refine wpIn_seq (wpIn_mono (EN (n14 F1 _ _ _ m d out l) 5 ms1) ?_);rintro e a2 W2 ⟨rfl,ms2⟩;refine wpIn_ret ?_;obtain⟨a0,Z2,eY,s⟩:=ms2;rw[e,List.drop_eq_nil_of_le (Nat.le_refl _)]at MF;have MF:out=bW d:=MF;rw[s.e];show LeavesInM _ _ _ _ a0.tmps _ (a0.defers++Ds.map X5) .returning W2;rw[s.t.defers,List.nil_append];refine yu Ds W2 s.nd (fun D hD=>(s.m D hD).1) fun W3 e1 e2 e3 e4 e5=>?_;have xu:Tryz.f207.results=#[.tmp 2]:=by kernel_rfl
  have nZ:∀b,Z2 b∨Own eY (aw SE ((),((),(out,())))).heap.get b→b∉Ds:=fun b hb hD=>by have:=s.fr b hD;exact hb.elim this.2.1 this.2.2
  have g3:Good Z2 eY (aw SE ((),((),(out,())))).heap.get W3 w.heap.size Fe:=s.g.same (fun _ h=>h) (fun b hb=>e5 b (nZ b hb)) (fun b hb hz=>(s.g.zA b hz).2 hb) fun b hb=>by rw[e4];exact s.g.kz b hb
  have k3:Wk Z w Fe Z2 W3:=⟨s.wk.gG,s.wk.fj,e1.trans s.wk.os,e2.trans s.wk.tape,e3.trans s.wk.output,by rw[e4];exact s.wk.size,fun b hb ho=>by rw[e5 b (fun hD=>by have:=(s.m b hD).2;omega)];exact s.wk.block b hb ho⟩;refine⟨_,results_tmp xu _ _ _,_,Z2,eY,rfl,k3.gG,fun b hb=>?_,⟨k3.os,k3.tape,k3.output,k3.size,fun b hb _=>k3.block b hb fun h=>h⟩,?_,fun i hi=>(by cases hi),?_⟩
  ·rcases k3.fj b hb with h|h|h
   ·exact .inl h
   ·exact h.elim
   omega
  ·rw[MF]at g3;exact g3.WH fun b _ hb=>hb.elim .inl fun h=>h.elim
  ·have r2:=s.t.rep 2;have:aA Z2 eY (aw SE ((),((),(out,())))).heap.get W2 (.bN 3000) (a0.tmps.getD 2 undef):=r2;rw[MF]at this;simp only[aA]at this;show aA Z2 eY _ W3 (.bN 3000) _;simp only[aA];exact this
 have et:decide ((i:Int)<((l.length:Nat):Int))=true:=aT aN;rw[et]at h14;refine wpIn_seq (wpIn_cond_true h14 (wpIn_skip ?_));refine wpIn_seq (wpIn_block (wpIn_seq ?_));have hy:=js l[i] (acV aN);have h5:=(n5 F1 (decide ((i:Int)<((l.length:Nat):Int))) ((l.length:Nat):Int) (i:Int) m d out l).trans (ae (cP (fK i) (aT aN)) (aa (a:=l[i]) (by simp_all) rfl));refine wpIn_mono (PY h5 5 ms1) ?_;rintro e a2 W2 ⟨rfl,hc⟩;refine wpIn_seq (wpIn_seq (wpIn_mono hc ?_));rintro e a3 W3 ⟨rfl,ms3⟩;have h19:=PZ ms3 (i:=19) rfl;rw[WQ ht]at h19;have PM:l.drop i=l[i]::l.drop (i+1):=adu aN;rw[PM,jf]at MF;by_cases hT:l[i]∈T
 ·rw[if_pos hT]at MF;refine wpIn_cond_true (h19.trans (congrArg Value.bool (decide_eq_true hT))) (wpIn_exit ?_);show Code.wpIn _ _ _ _ _ _ _;refine wpIn_mono (EN (amP F1 _ _ _ m d l[i] out l) 5 ms3) ?_;rintro e a4 W4 ⟨rfl,ms4⟩;have ew:=aD aN (by omega);rw[ew]at ms4;exact⟨l.length-(i+1),by omega,i+1,m,out,T,Ds,by omega,rfl,by omega,ms4,MF,ht⟩
 rw[if_neg hT]at MF;refine wpIn_cond_false (h19.trans (congrArg Value.bool (decide_eq_false hT))) (wpIn_skip ?_);refine wpIn_seq (wpIn_mono (PY (n7 F1 _ _ _ m d l[i] out l) 5 ms3) ?_);rintro e a4 W4 ⟨rfl,hc⟩;refine wpIn_seq (wpIn_seq (wpIn_mono hc ?_));rintro e a5 W5 ⟨rfl,ms5⟩;refine wpIn_block (wpIn_mono (WO 5 wf hy ms5) ?_);rintro e a6 W6 ⟨rfl,ms6⟩;have TI:=(n12 F1 ((l.length:Nat):Int) (i:Int) (tell m (bp d l[i])) (bp d l[i]) d out l).trans (ae (fits (by omega)) rfl);refine wpIn_mono (EN TI 5 ms6) ?_;rintro e a7 W7 ⟨rfl,ms7⟩;refine wpIn_mono (EN (n13 F1 _ _ _) 5 ms7) ?_;rintro e a8 W8 ⟨rfl,ms8⟩;have ew:=aD aN (by omega);rw[ew]at ms8;exact⟨l.length-(i+1),by omega,i+1,_,_,_,_,by omega,rfl,by simp;omega,ms8,MF,ht.tell _⟩
end Go.Vs
