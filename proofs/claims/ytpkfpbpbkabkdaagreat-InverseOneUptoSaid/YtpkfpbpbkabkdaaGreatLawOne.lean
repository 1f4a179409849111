/- InverseOne answers true -/
import Derived.Test.YtpkfpbpbkabkdaaGreatBack
set_option linter.unusedVariables false
set_option linter.unusedSimpArgs false
namespace Go.Vs
open Go.Proofs
variable {G:(f:FuncId)→(g:aS)→Option (g.A→Option g.B)}
theorem XM(hG:HG G)(a:List aR)(hl:a.length≤1073741824):FX G 50 vz ((a,a,()),())=some ((true,()),()):=by
 refine az (hG _ _ rfl) abZ ?_;refine ag (show((((a.length:Nat):Int)) != ((a.length:Nat):Int))=false by simp) ?_;have loop:∀(n i:Nat),i+n=a.length→LX G 50 vz Tryz.f50 vN (aO Tryz.prog 50 0) ((a,(a,((i:Int),()))),((),()))=some ((true,()),()):=by
  intro n
  induction n with
  |zero =>intro i hi;exact ao Mz (ag (decide_eq_false (show ¬((i:Int)<((a.length:Nat):Int)) by omega)) rfl)
  |succ n ih =>
   intro i hi;have aF:i<a.length:=by omega
   have hx:=aA (aaY aF);refine ao Mz (af (aY aF) (aa hx (aa hx ?_)));refine ag (show(!(p6 a[i] a[i]))=false by rw[(ig _ _).2 rfl];rfl) ?_;rw[wI,aD aF hl];exact ih (i+1) (by omega)
 exact loop a.length 0 (by omega)
theorem Pu{e:List aR}{m:Nat}(hb:b7 Dm e≤m):∀o∈e,o.2.2.2.2.2.2.2.1.size≤m:=fun o ho=>by have h1:b7 Dm e=(e.map (b7 fD)).sum+1:=rfl;rw[h1]at hb;have h3:=Al (b7 fD) ho;have h4:=EF o;omega
theorem JQ(hG:HG G)(x:ID)(oe:Bool)(l:ByteArray)(n:Int):FX G 93 kZ ((x,oe,l,n,()),())=some ((bF x oe l n,()),()):=by
 refine az (hG _ _ rfl) ab8 ?_;unfold bF;by_cases h1:l=e0
 ·rw[if_pos h1];refine ag (show(!(l==e0))=false by rw[K7,decide_eq_true h1];rfl) ?_;by_cases h2:n=0
  ·rw[if_pos h2];exact ag (show(n != 0)=false by simp[h2]) rfl
  ·rw[if_neg h2];exact af (show(n != 0)=true by simp[h2]) (af rfl rfl)
 ·rw[if_neg h1];refine af (show(!(l==e0))=true by rw[K7,decide_eq_false h1];rfl) (af rfl ?_);by_cases h2:n=0
  ·rw[if_pos h2];exact ag (show(n != 0)=false by simp[h2]) rfl
  ·rw[if_neg h2];exact af (show(n != 0)=true by simp[h2]) (af rfl rfl)
def Fe(v:ID)(row:List ae)(x:ae):ng:=if dF row x=x then(v,zD) else(v,dF row x)
theorem XN(hG:HG G)(v:ID)(row:List ae)(x:ae)(hl:row.length≤1073741824):FX G 125 EB ((v,row,x,()),())=some ((Fe v row x,()),()):=by
 refine az (hG _ _ rfl) acf ?_;refine aa (YB hG row x hl) ?_;have e1:(wF (cC row x (row.length-1))).1=dF row x:=sD _;have hb:=jE (wF (cC row x (row.length-1))).1 x;unfold Fe;by_cases h:dF row x=x
 ·rw[if_pos h];refine af (hb.trans (decide_eq_true (e1.trans h))) rfl
 ·rw[if_neg h];refine ag (hb.trans (decide_eq_false (fun k=>h (e1.symm.trans k)))) ?_;exact congrArg (fun y:ae=>some (((v,y),()),())) e1
theorem Pv{row:List ae}(h:zD∉row)(ht:cw row=row):cx row zD=row:=by unfold cx;have e:row.filter (fun e=>decide (e≠zD))=row:=List.filter_eq_self.2 (fun e he=>decide_eq_true (fun k=>h (by rw[←k];exact he)));rw[e];exact ht
theorem ZC{d:aj}(h:Wf d){v:ah}(hv:v∈d.1):zD∉v.2.1:=fun k=>by
 obtain⟨e,he,h1,_⟩:=cG.1 (h.pd.mem_iff.1 (bh.2 ⟨v,hv,k⟩));have:=(h.ge e he).i;rw[show e.1=zI from h1]at this
 cases this
theorem aer(hG:HG G)(s:StateT)(o:aR)(hw:eO s)(hx:(aH o,0)∈ax s.1.1)(hy:(aH o,1)∈ax s.1.1):FX G 94 Ez ((s,o,()),())=some ((Dg s.1 (aH o),()),()):=by
 have hs:=hw.d.sm;have tc:=hs.v;have WJ:=hs.e;refine az (hG _ _ rfl) ab9 ?_;obtain⟨v,hv,jF,av,rv⟩:=GX hw.d hx;obtain⟨w,hww,hyw,aw,rw_⟩:=GX hw.d hy;have fv:aQ s.1 v.1=some v:=ij hw.d.sv hv;have fw:aQ s.1 w.1=some w:=ij hw.d.sv hww;have h20:=fun x=>Gs hG s.1 x (by omega) (fun w hw=>by have:=hs.r w hw;omega);have q0:FX G 124 pQ ((s.1,(aH o,(0:Int)),()),())=some ((v.1,(true,())),()):=(h20 (aH o,0)).trans (congrArg (fun q:Option ID=>some (fQ zI q,())) av);have q1:FX G 124 pQ ((s.1,(aH o,(1:Int)),()),())=some ((w.1,(true,())),()):=(h20 (aH o,1)).trans (congrArg (fun q:Option ID=>some (fQ zI q,())) aw);have q2:FX G 79 kT ((s.1,v.1,()),())=some ((v,(true,())),()):=(vY (hG _ _ rfl) s.1 v.1 (by omega)).trans (congrArg (fun q:Option ah=>some (fQ zV q,())) fv);have q3:FX G 79 kT ((s.1,w.1,()),())=some ((w,(true,())),()):=(vY (hG _ _ rfl) s.1 w.1 (by omega)).trans (congrArg (fun q:Option ah=>some (fQ zV q,())) fw);refine aa q0 (aa q1 (aa q2 (aa q3 ?_)));refine aa (Gq (hG _ _ rfl) s.1 (aH o) (by omega)) ?_;have lv:=hw.d.qh v hv;have lw:=hw.d.qh w hww;refine aa (Xl hG v.2.1 (aH o,1) (by omega)) ?_;have lr:=rD v.2.1 (aH o,1);refine aa (XN hG v.1 (cx v.2.1 (aH o,1)) (aH o,0) (by omega)) ?_;refine aa (XN hG w.1 w.2.1 (aH o,1) (by omega)) ?_;have ee:(fQ zE (bZ s.1 (aH o))).1=(bZ s.1 (aH o)).getD zE:=dh _ _;refine aa ((congrArg (fun e:ai=>FX G 93 kZ ((aH o,true,e.2.1,e.2.2,()),())) ee).trans (JQ hG _ _ _ _)) ?_;have hl:=cF (aH o) true (j8 s.1 (aH o)).1 (j8 s.1 (aH o)).2;refine af (fits (show 1+(bF (aH o) true (j8 s.1 (aH o)).1 (j8 s.1 (aH o)).2).length≤_ by omega)) ?_;have b1:DT s.1 (aH o,0) (aH o,1)=Fe v.1 (cx v.2.1 (aH o,1)) (aH o,0):=by unfold DT Fe;rw[av];simp only[Option.getD_some];rw[rv]
 have b2:DT s.1 (aH o,1) zD=Fe w.1 w.2.1 (aH o,1):=by unfold DT Fe;rw[aw];simp only[Option.getD_some];rw[rw_,Pv (ZC hw.d hww) (hw.d.gv w hww).t]
 unfold Dg;rw[b1,b2];rfl
theorem aes(hG:HG G)(s:StateT)(o:aR)(hw:eO s){v:ah}{r0 r1:ae}(hv:aQ s.1 (aH o)=some v)(hr:v.2.1=[r0,r1])(bw:r0.1≠r1.1)(ZB:r0.1=an o∨r1.1=an o)(h0:r0.2=0∨r0.2=1)(h1:r1.2=0∨r1.2=1) :
  FX G 95 BS ((s,o,()),())=some ((cW s.1 o r0 r1,()),()):=by
 have hs:=hw.d.sm;have tc:=hs.v;have WJ:=hs.e;refine az (hG _ _ rfl) aca ?_;have q0:FX G 79 kT ((s.1,aH o,()),())=some ((v,(true,())),()):=(vY (hG _ _ rfl) s.1 (aH o) (by omega)).trans (congrArg (fun q:Option ah=>some (fQ zV q,())) hv);refine aa q0 ?_;have g0:aT v.2.1 0=some r0:=by rw[hr];rfl
 have g1:aT v.2.1 1=some r1:=by rw[hr];rfl
 refine aa g0 (aa g1 ?_);have ee:(fQ zE (bZ s.1 (an o))).1=(bZ s.1 (an o)).getD zE:=dh _ _;have l1:=cF (aH o) false v.2.2.1 v.2.2.2;have l2:=cF (an o) true ((bZ s.1 (an o)).getD zE).2.1 ((bZ s.1 (an o)).getD zE).2.2;have wr:∀p q:Int,(p=0∨p=1)→(q=0∨q=1)→IntKind.wrap .i64 (IntKind.wrap .i64 (1-p)+IntKind.wrap .i64 (2*q))=1-p+2*q:=fun p q hp hq=>by rw[wrap_small (n:=1-p) (by omega) (by omega),wrap_small (n:=2*q) (by omega) (by omega),wrap_small (by omega) (by omega)]
 have fin:∀(a b:ae),yg r0 r1 (an o)=(a,b)→(a.2=0∨a.2=1)→(b.2=0∨b.2=1) →([eW a.1 (aH o) (an o) (IntKind.wrap .i64 (IntKind.wrap .i64 (1-a.2)+IntKind.wrap .i64 (2*b.2)))]++bF (aH o) false v.2.2.1 v.2.2.2)++bF (an o) true ((bZ s.1 (an o)).getD zE).2.1 ((bZ s.1 (an o)).getD zE).2.2=cW s.1 o r0 r1:=fun a b e ha hb=>by unfold cW jD j8;rw[e,hv,wr _ _ ha hb];rfl
 have Wt:FX G 93 kZ ((an o,true,(fQ zE (bZ s.1 (an o))).1.2.1,(fQ zE (bZ s.1 (an o))).1.2.2,()),())=some ((bF (an o) true ((bZ s.1 (an o)).getD zE).2.1 ((bZ s.1 (an o)).getD zE).2.2,()),()) :=(congrArg (fun e:ai=>FX G 93 kZ ((an o,true,e.2.1,e.2.2,()),())) ee).trans (JQ hG _ _ _ _);by_cases h:r0.1=an o
 ·have mH:yg r0 r1 (an o)=(r1,r0):=if_pos h;refine af ((gM r0.1 (an o)).trans (decide_eq_true h)) (aa g1 (aa g0 ?_));refine aa (Gq (hG _ _ rfl) s.1 (an o) (by omega)) (aa (JQ hG (aH o) false v.2.2.1 v.2.2.2) ?_);refine af (fits (show 1+(bF (aH o) false v.2.2.1 v.2.2.2).length≤_ by omega)) (aa Wt ?_);refine af (fits (by rw[List.length_append];show 1+(bF (aH o) false v.2.2.1 v.2.2.2).length+(bF (an o) true ((bZ s.1 (an o)).getD zE).2.1 ((bZ s.1 (an o)).getD zE).2.2).length≤_;omega)) ?_;exact congrArg (fun l:List aR=>some ((l,()),())) (fin r1 r0 mH h1 h0)
 ·have mH:yg r0 r1 (an o)=(r0,r1):=if_neg h;refine ag ((gM r0.1 (an o)).trans (decide_eq_false h)) ?_;refine aa (Gq (hG _ _ rfl) s.1 (an o) (by omega)) (aa (JQ hG (aH o) false v.2.2.1 v.2.2.2) ?_);refine af (fits (show 1+(bF (aH o) false v.2.2.1 v.2.2.2).length≤_ by omega)) (aa Wt ?_);refine af (fits (by rw[List.length_append];show 1+(bF (aH o) false v.2.2.1 v.2.2.2).length+(bF (an o) true ((bZ s.1 (an o)).getD zE).2.1 ((bZ s.1 (an o)).getD zE).2.2).length≤_;omega)) ?_;exact congrArg (fun l:List aR=>some ((l,()),())) (fin r0 r1 mH h0 h1)
theorem XO(hG:HG G)(s:StateT)(o:aR)(h:eO s)(hf:Fit o):FX G 51 Ey ((s,o,()),())=some ((uG s o,()),()):=by
 have hn:=h.n;have hs:=h.d.sm;have tc:=hs.v;have WJ:=hs.e;refine az (hG _ _ rfl) ab0 ?_;refine aa (Vz hG s o h.d.bd (by omega) (by omega) hf.t) ?_;unfold uG;by_cases h0:(c7 s o).2.1=0
 case neg=>rw[if_pos h0];exact af (show((c7 s o).2.1 != 0)=true by simp[h0]) rfl
 rw[if_neg (by simp[h0])];refine ag (show((c7 s o).2.1 != 0)=false by simp[h0]) ?_;have hm:=wB h0;obtain⟨k1,k8⟩:=mA hm;have no:∀k:Int,¬o.1=k→(o.1==k)=false:=fun k hk=>by simp[hk]
 have ye:∀k:Int,o.1=k→(o.1==k)=true:=fun k hk=>by simp[hk]
 refine aa (vY (hG _ _ rfl) s.1 (aH o) (by omega)) ?_;have e1:(fQ zV (aQ s.1 (aH o))).1=(aQ s.1 (aH o)).getD zV:=dh _ _;have e2:(fQ zE (bZ s.1 (aH o))).1=(bZ s.1 (aH o)).getD zE:=dh _ _;have Wt:FX G 93 kZ ((aH o,false,(fQ zV (aQ s.1 (aH o))).1.2.2.1,(fQ zV (aQ s.1 (aH o))).1.2.2.2,()),())=some ((bF (aH o) false (jD s.1 (aH o)).1 (jD s.1 (aH o)).2,()),()) :=(congrArg (fun e:ah=>FX G 93 kZ ((aH o,false,e.2.2.1,e.2.2.2,()),())) e1).trans (JQ hG _ _ _ _);have hl:=cF (aH o) false (jD s.1 (aH o)).1 (jD s.1 (aH o)).2;have last:7≤o.1→∀q:ByteArray×Int,q=(if fE o=true then j8 s.1 (aH o) else jD s.1 (aH o)) →
   cond (o.1==7) (some (([O3 (aH o) (fE o) q.1],()),())) (some (([PN (aH o) (fE o) q.2],()),()))=(some ((yf s.1 o,()),()):Option ((List aR×Unit)×Unit)):=fun h7 q hq=>by
  rw[JP hm h7,←hq];by_cases c:o.1=7
  ·rw[if_pos c];exact af (ye 7 c) rfl
  ·rw[if_neg c];exact ag (no 7 c) rfl
 have six:o.1=6→∃r0 r1,FX G 95 BS ((s,o,()),())=some ((cW s.1 o r0 r1,()),())∧((aQ s.1 (aH o)).getD zV).2.1=[r0,r1]:=fun h6=>by obtain⟨v,r0,r1,hv,hr,bw,ZB⟩:=yh h0 h6;have SV:v∈s.1.1:=ady hv;have side:∀r∈v.2.1,r.2=0∨r.2=1:=fun r hr=>h.d.side (bh.2 ⟨v,SV,hr⟩);exact⟨r0,r1,aes hG s o h hv hr bw ZB (side r0 (by rw[hr];simp)) (side r1 (by rw[hr];simp)),by rw[hv];exact hr⟩
 unfold LU
 cases ho:fE o
 case' true=>refine af ho (aa (Gq (hG _ _ rfl) s.1 (aH o) (by omega)) ?_)
 case' false=>refine ag ho ?_
 all_goals
  by_cases h1:o.1=1
  ·rw[if_pos h1];exact af (ye 1 h1) rfl
  rw[if_neg h1];refine ag (no 1 h1) ?_;by_cases h2:o.1=2
  ·rw[if_pos h2];refine af (ye 2 h2) (aa Wt ?_);exact af (fits (show 1+(bF (aH o) false (jD s.1 (aH o)).1 (jD s.1 (aH o)).2).length≤_ by omega)) rfl
  rw[if_neg h2];refine ag (no 2 h2) ?_;by_cases h3:o.1=3
  ·rw[if_pos h3];exact af (ye 3 h3) rfl
  rw[if_neg h3];refine ag (no 3 h3) ?_;by_cases h4:o.1=4
  ·rw[if_pos h4];have he:=Fc h0 h4;exact af (ye 4 h4) (aa (aer hG s o h (h.d.jA he (.inl rfl)) (h.d.jA he (.inr rfl))) rfl)
  rw[if_neg h4];refine ag (no 4 h4) ?_;by_cases h5:o.1=5
  ·rw[if_pos h5];exact af (ye 5 h5) rfl
  rw[if_neg h5];refine ag (no 5 h5) ?_;by_cases h6:o.1=6
  ·rw[if_pos h6];obtain⟨r0,r1,q1,q2⟩:=six h6;rw[q2];exact af (ye 6 h6) (aa q1 rfl)
  rw[if_neg h6];refine ag (no 6 h6) ?_
 ·exact last (by omega) (fQ zV (aQ s.1 (aH o))).1.2.2 (by rw[e1,if_neg (by rw[ho];simp)];rfl)
 ·exact last (by omega) (fQ zE (bZ s.1 (aH o))).1.2 (by rw[e2,if_pos ho];rfl)
theorem aet(hG:HG G)(s:StateT)(l:List aR)(hw:eO s)(hl:l.length≤8)(hf:∀o∈l,Fit o):FX G 52 yY ((s,l,()),())=some (Ws s l,()):=by
 have hn:=hw.n;refine az (hG _ _ rfl) ab1 ?_;have hbs:Bs 1000 s:=⟨hw.d.bd.mono (by omega),by omega⟩;refine aa (ah6 hG s l hbs (by omega) fun o ho=>(hf o ho).t) ?_;unfold Ws;by_cases h0:(c6 s l).2.1=0
 case neg=>rw[if_pos h0];exact af (show((c6 s l).2.1 != 0)=true by simp[h0]) rfl
 rw[if_neg (by simp[h0])];refine ag (show((c6 s l).2.1 != 0)=false by simp[h0]) ?_;have MG:(p7 l s).2.1=0:=by rw[mD h0]at h0;exact h0
 have loop:∀(n i:Nat) (t:StateT) (acc:List aR),i+n=l.length→eO t→(p7 (l.drop i) t).2.1=0→acc.length≤5*i → LX G 52 yY Tryz.f52 vO (aO Tryz.prog 52 0) (((i:Int),()),(((t,()),((l,()),())),(acc,())))=some ((LV (l.drop i) t acc,((0:Int),())),()):=by
  intro n
  induction n with
  |zero =>intro i t acc hi ht hg ha;refine ao MA (ag (decide_eq_false (show ¬((i:Int)<((l.length:Nat):Int)) by omega)) ?_);rw[List.drop_eq_nil_of_le (by omega)];rfl
  |succ n ih =>
   intro i t acc hi ht hg ha;have aF:i<l.length:=by omega
   have hm:=adv aF;have Uo:=ht.n;rw[List.drop_eq_getElem_cons aF]at hg ⊢;obtain⟨g1,g2,_⟩:=go_step hg
   have hx:=aA (aaY aF);refine ao MA (af (aY aF) (aa hx ?_));refine aa (XO hG t l[i] ht (hf _ hm)) ?_;have hp:=wC ht l[i];refine af (fits (show(uG t l[i]).length+acc.length≤_ by omega)) (aa hx ?_);refine aa (Vz hG t l[i] ht.d.bd (by omega) (by omega) (hf _ hm).t) ?_;rw[wI,aD aF (by omega)];exact ih (i+1) _ (uG t l[i]++acc) (by omega) (ht.one l[i]) g2 (by rw[List.length_append];omega)
 exact loop l.length 0 s [] (by omega) hw MG (by simp)
theorem aeu(hG:HG G)(s:StateT)(l:List aR)(hw:eO s)(hl:l.length≤1073741824)(hf:∀o∈l,Fit o):FX G 54 y0 ((s,l,()),())=some (p7 l s,()):=by
 refine az (hG _ _ rfl) ab3 ?_;have loop:∀(n i:Nat) (t:StateT),i+n=l.length→eO t → LX G 54 y0 Tryz.f54 vQ (aO Tryz.prog 54 0) ((l,((i:Int),())),(((t,()),((zW,()))),()))=some (p7 (l.drop i) t,()):=by
  intro n
  induction n with
  |zero =>intro i t hi ht;refine ao MC (ag (decide_eq_false (show ¬((i:Int)<((l.length:Nat):Int)) by omega)) ?_);rw[List.drop_eq_nil_of_le (by omega)];rfl
  |succ n ih =>
   intro i t hi ht;have aF:i<l.length:=by omega
   have hm:=adv aF;have Uo:=ht.n;refine ao MC (af (aY aF) (aa (aA (aaY aF)) ?_));refine aa (Vz hG t l[i] ht.d.bd (by omega) (by omega) (hf _ hm).t) ?_;rw[List.drop_eq_getElem_cons aF,p7];by_cases h1:(c7 t l[i]).2.1=0
   ·rw[if_neg (by simp[h1])];refine ag (show((c7 t l[i]).2.1 != 0)=false by simp[h1]) ?_;rw[wI,aD aF hl];exact ih (i+1) _ (by omega) (ht.one l[i])
   ·rw[if_pos h1];exact af (show((c7 t l[i]).2.1 != 0)=true by simp[h1]) rfl
 exact loop l.length 0 s (by omega) hw
theorem JR:∀{l:List aR} {s:StateT} {acc:List aR},eO s→(LV l s acc).length≤5*l.length+acc.length
 |[],_,acc,_=>by show acc.length≤_;omega
 |o::r,s,acc,hw=>by have h1:=JR (l:=r) (s:=(c7 s o).1) (acc:=uG s o++acc) (hw.one o);have h2:=wC hw o;show(LV r (c7 s o).1 (uG s o++acc)).length≤_;rw[List.length_append]at h1;simp only[List.length_cons];omega
theorem Wu(hG:HG G)(GQ:∀o,nQ G o)(s:StateT)(o:aR)(e:List aR)(hs:Sm s.1)(hg:s.2.length≤50000000)(tv:∀v∈s.1.1,v.2.2.1.size≤100000000)(te:∀e∈s.1.2,e.2.1.size≤100000000)(PI:Fit o)(hf:∀o∈e,Fit o):FX G 10 Ex ((s,o,e,()),())=some ((true,()),()):=by
 refine az (hG _ _ rfl) abT ?_;refine aa (aen hG GQ) ?_;obtain⟨b,k1,k2⟩:=aem hG s hs hg tv te;refine aa k1 ?_
 cases b with
 |false=>rfl
 |true =>
  obtain⟨hw,_⟩:=k2 rfl;refine ag rfl (aa (aeo hG e) ?_);have hlen:(e.take 8).length≤8:=by simp;omega
  have hfk:∀o∈e.take 8,Fit o:=fun o ho=>hf o (List.mem_of_mem_take ho);generalize e.take 8=p at *;have hpl:=wC hw o;refine aa (T6 hG GQ s o hw PI) (aa (XO hG s o hw PI) (aa (XM hG (uG s o) (by omega)) ?_));have m0:(Ws s p).1.length≤40:=by
   unfold Ws
   split
   ·simp
   ·have:=JR (l:=p) (s:=s) (acc:=[]) hw;show(LV p s []).length≤40;simp only[List.length_nil]at this;omega
  refine aa (aep hG GQ s p hw hlen hfk) (aa (aet hG s p hw hlen hfk) (aa (XM hG (Ws s p).1 (by omega)) ?_));refine aa (aeq hG GQ s p hw (by omega) hfk) (aa (aeu hG s p hw (by omega) hfk) ?_);have hgw:=eO.go p hw;have hgn:=hgw.n;refine aa (ahO hG (p7 p s).1 (p7 p s).1 hgw.d.sm (by omega)) ?_;refine af rfl (af rfl (af rfl (af (show((Ws s p).2.1==(Ws s p).2.1)=true by simp) (af (by simp) ?_))));exact congrArg (fun b:Bool=>some ((b,()),())) (show((p7 p s).2.1==(p7 p s).2.1)=true by simp)
theorem ZD(s:StateT)(o:aR)(e:List aR)(_:K4 js s)(hwo:K4 fD o)(hw:K4 Dm e)(hb:b7 js s+b7 fD o+b7 Dm e≤1048576):FX GP 10 Ex ((s,o,e,()),())=some ((true,()),()):=by obtain⟨h1,h2,h3,h4,h5⟩:=JG (s:=s) (m:=1048576) (by omega);have ht:=Pu (e:=e) (m:=1048576) (by omega);have hto:=EF o;exact Wu hgP ad9 s o e ⟨by omega,by omega,fun v hv=>by have:=(h4 v hv).1;omega⟩ (by omega) (fun v hv=>by have:=(h4 v hv).2;omega) (fun e he=>by have:=h5 e he;omega) (TY hwo (by unfold ux;omega)) fun o ho=>TY (hw o ho) (by have:=ht o ho;unfold ux;omega)
end Go.Vs
