/- InverseOne answers true -/
import Derived.Test.YtpkfpbpbkabkdaaGreatBack
set_option linter.unusedVariables false
set_option linter.unusedSimpArgs false
namespace Go.Vs
open Go.Proofs
variable {G:(f:FuncId)→(g:aS)→Option (g.A→Option g.B)}
theorem XQ(hG:HG G)(a:List aR)(hl:a.length≤1073741824):FX G 50 vB ((a,a,()),())=some ((true,()),()):=by
 refine az (hG _ _ rfl) ab4 ?_;refine ag (show((((a.length:Nat):Int)) != ((a.length:Nat):Int))=false by simp) ?_;have loop:∀(n i:Nat),i+n=a.length→LX G 50 vB Tryz.f50 vP (aO Tryz.prog 50 0) ((a,(a,((i:Int),()))),((),()))=some ((true,()),()):=by
  intro n
  induction n with
  |zero =>intro i hi;exact ao MB (ag (decide_eq_false (show ¬((i:Int)<((a.length:Nat):Int)) by omega)) rfl)
  |succ n ih =>
   intro i hi;have aF:i<a.length:=by omega
   have hx:=aA (aaV aF);refine ao MB (af (aY aF) (aa hx (aa hx ?_)));refine ag (show(!(qa a[i] a[i]))=false by rw[(im _ _).2 rfl];rfl) ?_;rw[wI,aD aF hl];exact ih (i+1) (by omega)
 exact loop a.length 0 (by omega)
theorem Px{e:List aR}{m:Nat}(hb:b8 Dv e≤m):∀o∈e,o.2.2.2.2.2.2.2.1.size≤m:=fun o ho=>by have h1:b8 Dv e=(e.map (b8 fE)).sum+1:=rfl;rw[h1]at hb;have h3:=Ar (b8 fE) ho;have h4:=EJ o;omega
theorem JV(hG:HG G)(x:ID)(oe:Bool)(l:ByteArray)(n:Int):FX G 93 k0 ((x,oe,l,n,()),())=some ((bF x oe l n,()),()):=by
 refine az (hG _ _ rfl) ace ?_;unfold bF;by_cases h1:l=e0
 ·rw[if_pos h1];refine ag (show(!(l==e0))=false by rw[La,decide_eq_true h1];rfl) ?_;by_cases h2:n=0
  ·rw[if_pos h2];exact ag (show(n != 0)=false by simp[h2]) rfl
  ·rw[if_neg h2];exact af (show(n != 0)=true by simp[h2]) (af rfl rfl)
 ·rw[if_neg h1];refine af (show(!(l==e0))=true by rw[La,decide_eq_false h1];rfl) (af rfl ?_);by_cases h2:n=0
  ·rw[if_pos h2];exact ag (show(n != 0)=false by simp[h2]) rfl
  ·rw[if_neg h2];exact af (show(n != 0)=true by simp[h2]) (af rfl rfl)
def Fi(v:ID)(row:List ae)(x:ae):ni:=if dH row x=x then(v,zD) else(v,dH row x)
theorem XR(hG:HG G)(v:ID)(row:List ae)(x:ae)(hl:row.length≤1073741824):FX G 125 EF ((v,row,x,()),())=some ((Fi v row x,()),()):=by
 refine az (hG _ _ rfl) ack ?_;refine aa (YF hG row x hl) ?_;have e1:(wH (cE row x (row.length-1))).1=dH row x:=sI _;have hb:=jF (wH (cE row x (row.length-1))).1 x;unfold Fi;by_cases h:dH row x=x
 ·rw[if_pos h];refine af (hb.trans (decide_eq_true (e1.trans h))) rfl
 ·rw[if_neg h];refine ag (hb.trans (decide_eq_false (fun k=>h (e1.symm.trans k)))) ?_;exact congrArg (fun y:ae=>some (((v,y),()),())) e1
theorem Py{row:List ae}(h:zD∉row)(ht:cx row=row):cy row zD=row:=by unfold cy;have e:row.filter (fun e=>decide (e≠zD))=row:=List.filter_eq_self.2 (fun e he=>decide_eq_true (fun k=>h (by rw[←k];exact he)));rw[e];exact ht
theorem ZG{d:aj}(h:Wf d){v:ah}(hv:v∈d.1):zD∉v.2.1:=fun k=>by
 obtain⟨e,he,h1,_⟩:=cH.1 (h.pd.mem_iff.1 (bh.2 ⟨v,hv,k⟩));have:=(h.ge e he).i;rw[show e.1=zI from h1]at this
 cases this
theorem aew(hG:HG G)(s:StateT)(o:aR)(hw:eP s)(hx:(aH o,0)∈ax s.1.1)(hy:(aH o,1)∈ax s.1.1):FX G 94 ED ((s,o,()),())=some ((Dn s.1 (aH o),()),()):=by
 have hs:=hw.d.sm;have ti:=hs.v;have WN:=hs.e;refine az (hG _ _ rfl) acf ?_;obtain⟨v,hv,jG,av,rv⟩:=G2 hw.d hx;obtain⟨w,hww,hyw,aw,rw_⟩:=G2 hw.d hy;have fv:aQ s.1 v.1=some v:=iq hw.d.sv hv;have fw:aQ s.1 w.1=some w:=iq hw.d.sv hww;have h20:=fun x=>Gx hG s.1 x (by omega) (fun w hw=>by have:=hs.r w hw;omega);have q0:FX G 124 pS ((s.1,(aH o,(0:Int)),()),())=some ((v.1,(true,())),()):=(h20 (aH o,0)).trans (congrArg (fun q:Option ID=>some (fR zI q,())) av);have q1:FX G 124 pS ((s.1,(aH o,(1:Int)),()),())=some ((w.1,(true,())),()):=(h20 (aH o,1)).trans (congrArg (fun q:Option ID=>some (fR zI q,())) aw);have q2:FX G 79 kU ((s.1,v.1,()),())=some ((v,(true,())),()):=(v5 (hG _ _ rfl) s.1 v.1 (by omega)).trans (congrArg (fun q:Option ah=>some (fR zV q,())) fv);have q3:FX G 79 kU ((s.1,w.1,()),())=some ((w,(true,())),()):=(v5 (hG _ _ rfl) s.1 w.1 (by omega)).trans (congrArg (fun q:Option ah=>some (fR zV q,())) fw);refine aa q0 (aa q1 (aa q2 (aa q3 ?_)));refine aa (Gv (hG _ _ rfl) s.1 (aH o) (by omega)) ?_;have lv:=hw.d.qj v hv;have lw:=hw.d.qj w hww;refine aa (Xp hG v.2.1 (aH o,1) (by omega)) ?_;have lr:=rG v.2.1 (aH o,1);refine aa (XR hG v.1 (cy v.2.1 (aH o,1)) (aH o,0) (by omega)) ?_;refine aa (XR hG w.1 w.2.1 (aH o,1) (by omega)) ?_;have ee:(fR zE (bZ s.1 (aH o))).1=(bZ s.1 (aH o)).getD zE:=di _ _;refine aa ((congrArg (fun e:ai=>FX G 93 k0 ((aH o,true,e.2.1,e.2.2,()),())) ee).trans (JV hG _ _ _ _)) ?_;have hl:=cG (aH o) true (j9 s.1 (aH o)).1 (j9 s.1 (aH o)).2;refine af (fits (show 1+(bF (aH o) true (j9 s.1 (aH o)).1 (j9 s.1 (aH o)).2).length≤_ by omega)) ?_;have b1:D0 s.1 (aH o,0) (aH o,1)=Fi v.1 (cy v.2.1 (aH o,1)) (aH o,0):=by unfold D0 Fi;rw[av];simp only[Option.getD_some];rw[rv]
 have b2:D0 s.1 (aH o,1) zD=Fi w.1 w.2.1 (aH o,1):=by unfold D0 Fi;rw[aw];simp only[Option.getD_some];rw[rw_,Py (ZG hw.d hww) (hw.d.gv w hww).t]
 unfold Dn;rw[b1,b2];rfl
theorem aex(hG:HG G)(s:StateT)(o:aR)(hw:eP s){v:ah}{r0 r1:ae}(hv:aQ s.1 (aH o)=some v)(hr:v.2.1=[r0,r1])(bw:r0.1≠r1.1)(ZF:r0.1=an o∨r1.1=an o)(h0:r0.2=0∨r0.2=1)(h1:r1.2=0∨r1.2=1) :
  FX G 95 BY ((s,o,()),())=some ((cX s.1 o r0 r1,()),()):=by
 have hs:=hw.d.sm;have ti:=hs.v;have WN:=hs.e;refine az (hG _ _ rfl) acg ?_;have q0:FX G 79 kU ((s.1,aH o,()),())=some ((v,(true,())),()):=(v5 (hG _ _ rfl) s.1 (aH o) (by omega)).trans (congrArg (fun q:Option ah=>some (fR zV q,())) hv);refine aa q0 ?_;have g0:aT v.2.1 0=some r0:=by rw[hr];rfl
 have g1:aT v.2.1 1=some r1:=by rw[hr];rfl
 refine aa g0 (aa g1 ?_);have ee:(fR zE (bZ s.1 (an o))).1=(bZ s.1 (an o)).getD zE:=di _ _;have l1:=cG (aH o) false v.2.2.1 v.2.2.2;have l2:=cG (an o) true ((bZ s.1 (an o)).getD zE).2.1 ((bZ s.1 (an o)).getD zE).2.2;have wr:∀p q:Int,(p=0∨p=1)→(q=0∨q=1)→IntKind.wrap .i64 (IntKind.wrap .i64 (1-p)+IntKind.wrap .i64 (2*q))=1-p+2*q:=fun p q hp hq=>by rw[wrap_small (n:=1-p) (by omega) (by omega),wrap_small (n:=2*q) (by omega) (by omega),wrap_small (by omega) (by omega)]
 have fin:∀(a b:ae),yk r0 r1 (an o)=(a,b)→(a.2=0∨a.2=1)→(b.2=0∨b.2=1) →([eX a.1 (aH o) (an o) (IntKind.wrap .i64 (IntKind.wrap .i64 (1-a.2)+IntKind.wrap .i64 (2*b.2)))]++bF (aH o) false v.2.2.1 v.2.2.2)++bF (an o) true ((bZ s.1 (an o)).getD zE).2.1 ((bZ s.1 (an o)).getD zE).2.2=cX s.1 o r0 r1:=fun a b e ha hb=>by unfold cX jE j9;rw[e,hv,wr _ _ ha hb];rfl
 have Wx:FX G 93 k0 ((an o,true,(fR zE (bZ s.1 (an o))).1.2.1,(fR zE (bZ s.1 (an o))).1.2.2,()),())=some ((bF (an o) true ((bZ s.1 (an o)).getD zE).2.1 ((bZ s.1 (an o)).getD zE).2.2,()),()) :=(congrArg (fun e:ai=>FX G 93 k0 ((an o,true,e.2.1,e.2.2,()),())) ee).trans (JV hG _ _ _ _);by_cases h:r0.1=an o
 ·have mJ:yk r0 r1 (an o)=(r1,r0):=if_pos h;refine af ((gN r0.1 (an o)).trans (decide_eq_true h)) (aa g1 (aa g0 ?_));refine aa (Gv (hG _ _ rfl) s.1 (an o) (by omega)) (aa (JV hG (aH o) false v.2.2.1 v.2.2.2) ?_);refine af (fits (show 1+(bF (aH o) false v.2.2.1 v.2.2.2).length≤_ by omega)) (aa Wx ?_);refine af (fits (by rw[List.length_append];show 1+(bF (aH o) false v.2.2.1 v.2.2.2).length+(bF (an o) true ((bZ s.1 (an o)).getD zE).2.1 ((bZ s.1 (an o)).getD zE).2.2).length≤_;omega)) ?_;exact congrArg (fun l:List aR=>some ((l,()),())) (fin r1 r0 mJ h1 h0)
 ·have mJ:yk r0 r1 (an o)=(r0,r1):=if_neg h;refine ag ((gN r0.1 (an o)).trans (decide_eq_false h)) ?_;refine aa (Gv (hG _ _ rfl) s.1 (an o) (by omega)) (aa (JV hG (aH o) false v.2.2.1 v.2.2.2) ?_);refine af (fits (show 1+(bF (aH o) false v.2.2.1 v.2.2.2).length≤_ by omega)) (aa Wx ?_);refine af (fits (by rw[List.length_append];show 1+(bF (aH o) false v.2.2.1 v.2.2.2).length+(bF (an o) true ((bZ s.1 (an o)).getD zE).2.1 ((bZ s.1 (an o)).getD zE).2.2).length≤_;omega)) ?_;exact congrArg (fun l:List aR=>some ((l,()),())) (fin r0 r1 mJ h0 h1)
theorem XS(hG:HG G)(s:StateT)(o:aR)(h:eP s)(hf:Fit o):FX G 51 EC ((s,o,()),())=some ((uK s o,()),()):=by
 have hn:=h.n;have hs:=h.d.sm;have ti:=hs.v;have WN:=hs.e;refine az (hG _ _ rfl) ab5 ?_;refine aa (VD hG s o h.d.bd (by omega) (by omega) hf.t) ?_;unfold uK;by_cases h0:(c8 s o).2.1=0
 case neg=>rw[if_pos h0];exact af (show((c8 s o).2.1 != 0)=true by simp[h0]) rfl
 rw[if_neg (by simp[h0])];refine ag (show((c8 s o).2.1 != 0)=false by simp[h0]) ?_;have hm:=wD h0;obtain⟨k1,k8⟩:=mD hm;have no:∀k:Int,¬o.1=k→(o.1==k)=false:=fun k hk=>by simp[hk]
 have ye:∀k:Int,o.1=k→(o.1==k)=true:=fun k hk=>by simp[hk]
 refine aa (v5 (hG _ _ rfl) s.1 (aH o) (by omega)) ?_;have e1:(fR zV (aQ s.1 (aH o))).1=(aQ s.1 (aH o)).getD zV:=di _ _;have e2:(fR zE (bZ s.1 (aH o))).1=(bZ s.1 (aH o)).getD zE:=di _ _;have Wx:FX G 93 k0 ((aH o,false,(fR zV (aQ s.1 (aH o))).1.2.2.1,(fR zV (aQ s.1 (aH o))).1.2.2.2,()),())=some ((bF (aH o) false (jE s.1 (aH o)).1 (jE s.1 (aH o)).2,()),()) :=(congrArg (fun e:ah=>FX G 93 k0 ((aH o,false,e.2.2.1,e.2.2.2,()),())) e1).trans (JV hG _ _ _ _);have hl:=cG (aH o) false (jE s.1 (aH o)).1 (jE s.1 (aH o)).2;have last:7≤o.1→∀q:ByteArray×Int,q=(if fF o=true then j9 s.1 (aH o) else jE s.1 (aH o)) →
   cond (o.1==7) (some (([O6 (aH o) (fF o) q.1],()),())) (some (([PS (aH o) (fF o) q.2],()),()))=(some ((yj s.1 o,()),()):Option ((List aR×Unit)×Unit)):=fun h7 q hq=>by
  rw[JU hm h7,←hq];by_cases c:o.1=7
  ·rw[if_pos c];exact af (ye 7 c) rfl
  ·rw[if_neg c];exact ag (no 7 c) rfl
 have six:o.1=6→∃r0 r1,FX G 95 BY ((s,o,()),())=some ((cX s.1 o r0 r1,()),())∧((aQ s.1 (aH o)).getD zV).2.1=[r0,r1]:=fun h6=>by obtain⟨v,r0,r1,hv,hr,bw,ZF⟩:=yl h0 h6;have S4:v∈s.1.1:=ado hv;have side:∀r∈v.2.1,r.2=0∨r.2=1:=fun r hr=>h.d.side (bh.2 ⟨v,S4,hr⟩);exact⟨r0,r1,aex hG s o h hv hr bw ZF (side r0 (by rw[hr];simp)) (side r1 (by rw[hr];simp)),by rw[hv];exact hr⟩
 unfold LW
 cases ho:fF o
 case' true=>refine af ho (aa (Gv (hG _ _ rfl) s.1 (aH o) (by omega)) ?_)
 case' false=>refine ag ho ?_
 all_goals
  by_cases h1:o.1=1
  ·rw[if_pos h1];exact af (ye 1 h1) rfl
  rw[if_neg h1];refine ag (no 1 h1) ?_;by_cases h2:o.1=2
  ·rw[if_pos h2];refine af (ye 2 h2) (aa Wx ?_);exact af (fits (show 1+(bF (aH o) false (jE s.1 (aH o)).1 (jE s.1 (aH o)).2).length≤_ by omega)) rfl
  rw[if_neg h2];refine ag (no 2 h2) ?_;by_cases h3:o.1=3
  ·rw[if_pos h3];exact af (ye 3 h3) rfl
  rw[if_neg h3];refine ag (no 3 h3) ?_;by_cases h4:o.1=4
  ·rw[if_pos h4];have he:=Fh h0 h4;exact af (ye 4 h4) (aa (aew hG s o h (h.d.jB he (.inl rfl)) (h.d.jB he (.inr rfl))) rfl)
  rw[if_neg h4];refine ag (no 4 h4) ?_;by_cases h5:o.1=5
  ·rw[if_pos h5];exact af (ye 5 h5) rfl
  rw[if_neg h5];refine ag (no 5 h5) ?_;by_cases h6:o.1=6
  ·rw[if_pos h6];obtain⟨r0,r1,q1,q2⟩:=six h6;rw[q2];exact af (ye 6 h6) (aa q1 rfl)
  rw[if_neg h6];refine ag (no 6 h6) ?_
 ·exact last (by omega) (fR zV (aQ s.1 (aH o))).1.2.2 (by rw[e1,if_neg (by rw[ho];simp)];rfl)
 ·exact last (by omega) (fR zE (bZ s.1 (aH o))).1.2 (by rw[e2,if_pos ho];rfl)
theorem aey(hG:HG G)(s:StateT)(l:List aR)(hw:eP s)(hl:l.length≤8)(hf:∀o∈l,Fit o):FX G 52 zd ((s,l,()),())=some (Ww s l,()):=by
 have hn:=hw.n;refine az (hG _ _ rfl) ab6 ?_;have hbs:Bs 1000 s:=⟨hw.d.bd.mono (by omega),by omega⟩;refine aa (aib hG s l hbs (by omega) fun o ho=>(hf o ho).t) ?_;unfold Ww;by_cases h0:(c7 s l).2.1=0
 case neg=>rw[if_pos h0];exact af (show((c7 s l).2.1 != 0)=true by simp[h0]) rfl
 rw[if_neg (by simp[h0])];refine ag (show((c7 s l).2.1 != 0)=false by simp[h0]) ?_;have MI:(qb l s).2.1=0:=by rw[mG h0]at h0;exact h0
 have loop:∀(n i:Nat) (t:StateT) (acc:List aR),i+n=l.length→eP t→(qb (l.drop i) t).2.1=0→acc.length≤5*i → LX G 52 zd Tryz.f52 vQ (aO Tryz.prog 52 0) (((i:Int),()),(((t,()),((l,()),())),(acc,())))=some ((LY (l.drop i) t acc,((0:Int),())),()):=by
  intro n
  induction n with
  |zero =>intro i t acc hi ht hg ha;refine ao MC (ag (decide_eq_false (show ¬((i:Int)<((l.length:Nat):Int)) by omega)) ?_);rw[List.drop_eq_nil_of_le (by omega)];rfl
  |succ n ih =>
   intro i t acc hi ht hg ha;have aF:i<l.length:=by omega
   have hm:=adg aF;have Us:=ht.n;rw[List.drop_eq_getElem_cons aF]at hg ⊢;obtain⟨g1,g2,_⟩:=go_step hg
   have hx:=aA (aaV aF);refine ao MC (af (aY aF) (aa hx ?_));refine aa (XS hG t l[i] ht (hf _ hm)) ?_;have hp:=wE ht l[i];refine af (fits (show(uK t l[i]).length+acc.length≤_ by omega)) (aa hx ?_);refine aa (VD hG t l[i] ht.d.bd (by omega) (by omega) (hf _ hm).t) ?_;rw[wI,aD aF (by omega)];exact ih (i+1) _ (uK t l[i]++acc) (by omega) (ht.one l[i]) g2 (by rw[List.length_append];omega)
 exact loop l.length 0 s [] (by omega) hw MI (by simp)
theorem aez(hG:HG G)(s:StateT)(l:List aR)(hw:eP s)(hl:l.length≤1073741824)(hf:∀o∈l,Fit o):FX G 54 zg ((s,l,()),())=some (qb l s,()):=by
 refine az (hG _ _ rfl) ab8 ?_;have loop:∀(n i:Nat) (t:StateT),i+n=l.length→eP t → LX G 54 zg Tryz.f54 vS (aO Tryz.prog 54 0) ((l,((i:Int),())),(((t,()),((zW,()))),()))=some (qb (l.drop i) t,()):=by
  intro n
  induction n with
  |zero =>intro i t hi ht;refine ao ME (ag (decide_eq_false (show ¬((i:Int)<((l.length:Nat):Int)) by omega)) ?_);rw[List.drop_eq_nil_of_le (by omega)];rfl
  |succ n ih =>
   intro i t hi ht;have aF:i<l.length:=by omega
   have hm:=adg aF;have Us:=ht.n;refine ao ME (af (aY aF) (aa (aA (aaV aF)) ?_));refine aa (VD hG t l[i] ht.d.bd (by omega) (by omega) (hf _ hm).t) ?_;rw[List.drop_eq_getElem_cons aF,qb];by_cases h1:(c8 t l[i]).2.1=0
   ·rw[if_neg (by simp[h1])];refine ag (show((c8 t l[i]).2.1 != 0)=false by simp[h1]) ?_;rw[wI,aD aF hl];exact ih (i+1) _ (by omega) (ht.one l[i])
   ·rw[if_pos h1];exact af (show((c8 t l[i]).2.1 != 0)=true by simp[h1]) rfl
 exact loop l.length 0 s (by omega) hw
theorem JW:∀{l:List aR} {s:StateT} {acc:List aR},eP s→(LY l s acc).length≤5*l.length+acc.length
 |[],_,acc,_=>by show acc.length≤_;omega
 |o::r,s,acc,hw=>by have h1:=JW (l:=r) (s:=(c8 s o).1) (acc:=uK s o++acc) (hw.one o);have h2:=wE hw o;show(LY r (c8 s o).1 (uK s o++acc)).length≤_;rw[List.length_append]at h1;simp only[List.length_cons];omega
theorem Wy(hG:HG G)(GW:∀o,nR G o)(s:StateT)(o:aR)(e:List aR)(hs:Sm s.1)(hg:s.2.length≤50000000)(tv:∀v∈s.1.1,v.2.2.1.size≤100000000)(te:∀e∈s.1.2,e.2.1.size≤100000000)(PN:Fit o)(hf:∀o∈e,Fit o):FX G 10 EB ((s,o,e,()),())=some ((true,()),()):=by
 refine az (hG _ _ rfl) abY ?_;refine aa (aes hG GW) ?_;obtain⟨b,k1,k2⟩:=aer hG s hs hg tv te;refine aa k1 ?_
 cases b with
 |false=>rfl
 |true =>
  obtain⟨hw,_⟩:=k2 rfl;refine ag rfl (aa (aet hG e) ?_);have hlen:(e.take 8).length≤8:=by simp;omega
  have hfk:∀o∈e.take 8,Fit o:=fun o ho=>hf o (List.mem_of_mem_take ho);generalize e.take 8=p at *;have hpl:=wE hw o;refine aa (Ub hG GW s o hw PN) (aa (XS hG s o hw PN) (aa (XQ hG (uK s o) (by omega)) ?_));have ng:(Ww s p).1.length≤40:=by
   unfold Ww
   split
   ·simp
   ·have:=JW (l:=p) (s:=s) (acc:=[]) hw;show(LY p s []).length≤40;simp only[List.length_nil]at this;omega
  refine aa (aeu hG GW s p hw hlen hfk) (aa (aey hG s p hw hlen hfk) (aa (XQ hG (Ww s p).1 (by omega)) ?_));refine aa (aev hG GW s p hw (by omega) hfk) (aa (aez hG s p hw (by omega) hfk) ?_);have hgw:=eP.go p hw;have hgn:=hgw.n;refine aa (ahT hG (qb p s).1 (qb p s).1 hgw.d.sm (by omega)) ?_;refine af rfl (af rfl (af rfl (af (show((Ww s p).2.1==(Ww s p).2.1)=true by simp) (af (by simp) ?_))));exact congrArg (fun b:Bool=>some ((b,()),())) (show((qb p s).2.1==(qb p s).2.1)=true by simp)
theorem ZH(s:StateT)(o:aR)(e:List aR)(_:K7 ju s)(hwo:K7 fE o)(hw:K7 Dv e)(hb:b8 ju s+b8 fE o+b8 Dv e≤1048576):FX GP 10 EB ((s,o,e,()),())=some ((true,()),()):=by obtain⟨h1,h2,h3,h4,h5⟩:=JK (s:=s) (m:=1048576) (by omega);have ht:=Px (e:=e) (m:=1048576) (by omega);have hto:=EJ o;exact Wy hgP aee s o e ⟨by omega,by omega,fun v hv=>by have:=(h4 v hv).1;omega⟩ (by omega) (fun v hv=>by have:=(h4 v hv).2;omega) (fun e he=>by have:=h5 e he;omega) (T3 hwo (by unfold uB;omega)) fun o ho=>T3 (hw o ho) (by have:=ht o ho;unfold uB;omega)
end Go.Vs
