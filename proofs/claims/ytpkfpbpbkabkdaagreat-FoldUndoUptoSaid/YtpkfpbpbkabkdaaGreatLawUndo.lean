/- FoldUndo answers true -/
import Derived.Test.YtpkfpbpbkabkdaaGreatAgain
set_option linter.unusedVariables false
set_option linter.unusedSimpArgs false
namespace Go.Vs
open Go.Proofs
variable {G:(f:FuncId)→(g:aX)→Option (g.A→Option g.B)}
theorem XX{o:aE}(h:bg o=0)(hk:o.1=3):p6 (oA o)=true∧p6 (oB o)=true:=by
 unfold bg at h
 split at h;· cases h
 split at h;· cases h
 split at h;· cases h
 split at h;· cases h
 split at h
 ·assumption
 ·cases h
theorem Rd{c:lW}(h:p6 c=true):E7 c.2.2:=by
 unfold p6 Js at h;simp only[Bool.and_eq_true,Bool.or_eq_true,decide_eq_true_eq]at h;unfold E7;rcases h.2 with h|h
 ·omega
 ·rw[h];exact⟨by decide,by decide⟩
theorem MZ:e0.size≤100000000:=by simp[e0,ByteArray.size]
theorem Re{o:aE}(h:bg o=0):Fit o:=by
 have hr:=MV h;obtain⟨k1,k8⟩:=jw h;have h3:=XX h;have h5:=np h;have h8:=Fk h;have h7:=AE h;obtain⟨k,x,nw,ot,a,b,oe,t,n⟩:=o;simp only at k1 k8 h3 h5 h8 h7;have fin:E7 a.2.2→E7 b.2.2→E7 n→t.size≤100000000→Fit (k,x,nw,ot,a,b,oe,t,n):=fun p q r u=>⟨p,q,r,u⟩;have z:∀c:lW,c=zC→E7 c.2.2:=fun c e=>by subst e;exact sQ
 unfold kC at hr;by_cases c3:k=3
 ·subst c3;simp only[if_true,Ge,Prod.mk.injEq,true_and]at hr;obtain⟨rfl,rfl,rfl,rfl,rfl⟩:=hr;obtain⟨p,q⟩:=h3 rfl;exact fin (Rd p) (Rd q) sQ MZ
 by_cases c5:k=5
 ·subst c5;simp only[show ¬(5:Int)=3 by decide,if_false,if_true,Ge,Prod.mk.injEq,true_and,and_true]at hr;obtain⟨rfl,rfl,rfl,rfl⟩:=hr;obtain⟨_,_,p,q⟩:=h5 rfl;exact fin sQ sQ (by show E7 n;have p:0≤n:=p;have q:n≤3:=q;unfold E7;omega) MZ
 by_cases c6:k=6
 ·subst c6;simp only[show ¬(6:Int)=3 by decide,show ¬(6:Int)=5 by decide,if_false,if_true,Ge,Prod.mk.injEq,true_and]at hr;obtain⟨rfl,rfl,rfl,rfl,rfl,rfl⟩:=hr;exact fin sQ sQ sQ MZ
 by_cases c7:k=7
 ·subst c7;simp only[show ¬(7:Int)=3 by decide,show ¬(7:Int)=5 by decide,show ¬(7:Int)=6 by decide,if_false,if_true,Ge,Prod.mk.injEq,true_and]at hr;obtain⟨rfl,rfl,rfl,rfl,rfl⟩:=hr;have:=SS (h7 rfl);exact fin sQ sQ sQ (by have:t.size≤16:=this;omega)
 by_cases c8:k=8
 ·subst c8;simp only[show ¬(8:Int)=3 by decide,show ¬(8:Int)=5 by decide,show ¬(8:Int)=6 by decide,show ¬(8:Int)=7 by decide,if_false,if_true,Ge,Prod.mk.injEq,true_and,and_true]at hr;obtain⟨rfl,rfl,rfl,rfl,rfl⟩:=hr;exact fin sQ sQ (Zs (h8 rfl)) MZ
 ·simp only[if_neg c3,if_neg c5,if_neg c6,if_neg c7,if_neg c8,Ge,Prod.mk.injEq,true_and]at hr;obtain⟨rfl,rfl,rfl,rfl,rfl,rfl,rfl⟩:=hr;exact fin sQ sQ sQ MZ
theorem XY{s:StateT}(hw:cS s)(o:aE):∀p∈qY s o,bg p=0:=by
 unfold qY
 split
 ·intro p hp;cases hp
 ·rename_i h;exact(QY hw (by simpa using h)).1
theorem M0(hG:HG G)(x:ID)(oe:Bool)(l:ByteArray)(n:Int):FX G 93 mJ ((x,oe,l,n,()),())=some ((bu x oe l n,()),()):=by
 refine aC (hG _ _ rfl) afY ?_;unfold bu;by_cases h1:l=e0
 ·rw[if_pos h1];refine ah (show(!(l==e0))=false by rw[Ol,decide_eq_true h1];rfl) ?_;by_cases h2:n=0
  ·rw[if_pos h2];exact ah (show(n != 0)=false by simp[h2]) rfl
  ·rw[if_neg h2];exact ae (show(n != 0)=true by simp[h2]) (ae rfl rfl)
 ·rw[if_neg h1];refine ae (show(!(l==e0))=true by rw[Ol,decide_eq_false h1];rfl) (ae rfl ?_);by_cases h2:n=0
  ·rw[if_pos h2];exact ah (show(n != 0)=false by simp[h2]) rfl
  ·rw[if_neg h2];exact ae (show(n != 0)=true by simp[h2]) (ae rfl rfl)
def Ip(v:ID)(row:List ab)(x:ab):lW:=if cr row x=x then(v,zD) else(v,cr row x)
theorem abC(hG:HG G)(v:ID)(row:List ab)(x:ab)(hl:row.length≤1073741824):FX G 125 HB ((v,row,x,()),())=some ((Ip v row x,()),()):=by
 refine aC (hG _ _ rfl) af5 ?_;refine aa (acm hG row x hl) ?_;have e1:(zt (cK row x (row.length-1))).1=cr row x:=u6 _;have hb:=lg (zt (cK row x (row.length-1))).1 x;unfold Ip;by_cases h:cr row x=x
 ·rw[if_pos h];refine ae (hb.trans (decide_eq_true (e1.trans h))) rfl
 ·rw[if_neg h];refine ah (hb.trans (decide_eq_false (fun k=>h (e1.symm.trans k)))) ?_;exact congrArg (fun y:ab=>some (((v,y),()),())) e1
theorem Tv{row:List ab}(h:zD∉row)(ht:bG row=row):bw row zD=row:=by unfold bw;have e:row.filter (fun e=>decide (e≠zD))=row:=adO.2 (fun e he=>decide_eq_true (fun k=>h (by rw[←k];exact he)));rw[e];exact ht
theorem adv{d:ak}(h:Wf d){v:ai}(hv:v∈d.1):zD∉v.2.1:=fun k=>by
 obtain⟨e,he,h1,_⟩:=dr.1 (h.pd.mem_iff.1 (aM.2 ⟨v,hv,k⟩));have:=(h.ge e he).i;rw[show e.1=zI from h1]at this
 cases this
theorem aiA(hG:HG G)(s:StateT)(o:aE)(hw:cS s)(hx:(ar o,0)∈an s.1.1)(hy:(ar o,1)∈an s.1.1):FX G 94 Hz ((s,o,()),())=some ((xk s.1 (ar o),()),()):=by
 have hs:=hw.d.sm;have vL:=hs.v;have he1:=hs.e;refine aC (hG _ _ rfl) afZ ?_;obtain⟨v,hv,kb,av,rv⟩:=J3 hw.d hx;obtain⟨w,hww,hyw,aw,rw_⟩:=J3 hw.d hy;have fv:aG s.1 v.1=some v:=dM hw.d.sv hv;have fw:aG s.1 w.1=some w:=dM hw.d.sv hww;have h20:=fun x=>Jw hG s.1 x (by omega) (fun w hw=>by have:=hs.r w hw;omega);have q0:FX G 124 rO ((s.1,(ar o,(0:Int)),()),())=some ((v.1,(true,())),()):=(h20 (ar o,0)).trans (congrArg (fun q:Option ID=>some (ia zI q,())) av);have q1:FX G 124 rO ((s.1,(ar o,(1:Int)),()),())=some ((w.1,(true,())),()):=(h20 (ar o,1)).trans (congrArg (fun q:Option ID=>some (ia zI q,())) aw);have q2:FX G 79 mA ((s.1,v.1,()),())=some ((v,(true,())),()):=(yR (hG _ _ rfl) s.1 v.1 (by omega)).trans (congrArg (fun q:Option ai=>some (ia zV q,())) fv);have q3:FX G 79 mA ((s.1,w.1,()),())=some ((w,(true,())),()):=(yR (hG _ _ rfl) s.1 w.1 (by omega)).trans (congrArg (fun q:Option ai=>some (ia zV q,())) fw);refine aa q0 (aa q1 (aa q2 (aa q3 ?_)));refine aa (L3 (hG _ _ rfl) s.1 (ar o) (by omega)) ?_;have lv:=hw.d.sd v hv;have lw:=hw.d.sd w hww;refine aa (aa8 hG v.2.1 (ar o,1) (by omega)) ?_;have lr:=ub v.2.1 (ar o,1);refine aa (abC hG v.1 (bw v.2.1 (ar o,1)) (ar o,0) (by omega)) ?_;refine aa (abC hG w.1 w.2.1 (ar o,1) (by omega)) ?_;have ee:(ia zE (b5 s.1 (ar o))).1=(b5 s.1 (ar o)).getD zE:=dG _ _;refine aa ((congrArg (fun e:aj=>FX G 93 mJ ((ar o,true,e.2.1,e.2.2,()),())) ee).trans (M0 hG _ _ _ _)) ?_;have hl:=da (ar o) true (fJ s.1 (ar o)).1 (fJ s.1 (ar o)).2;refine ae (fits (show 1+(bu (ar o) true (fJ s.1 (ar o)).1 (fJ s.1 (ar o)).2).length≤_ by omega)) ?_;have b1:zh s.1 (ar o,0) (ar o,1)=Ip v.1 (bw v.2.1 (ar o,1)) (ar o,0):=by unfold zh Ip;rw[av];simp only[Option.getD_some];rw[rv]
 have b2:zh s.1 (ar o,1) zD=Ip w.1 w.2.1 (ar o,1):=by unfold zh Ip;rw[aw];simp only[Option.getD_some];rw[rw_,Tv (adv hw.d hww) (hw.d.gv w hww).t]
 unfold xk;rw[b1,b2];rfl
theorem aiB(hG:HG G)(s:StateT)(o:aE)(hw:cS s){v:ai}{r0 r1:ab}(hv:aG s.1 (ar o)=some v)(hr:v.2.1=[r0,r1])(bp:r0.1≠r1.1)(hor:r0.1=af o∨r1.1=af o)(h0:r0.2=0∨r0.2=1)(h1:r1.2=0∨r1.2=1) :
  FX G 95 El ((s,o,()),())=some ((cF s.1 o r0 r1,()),()):=by
 have hs:=hw.d.sm;have vL:=hs.v;have he1:=hs.e;refine aC (hG _ _ rfl) af0 ?_;have q0:FX G 79 mA ((s.1,ar o,()),())=some ((v,(true,())),()):=(yR (hG _ _ rfl) s.1 (ar o) (by omega)).trans (congrArg (fun q:Option ai=>some (ia zV q,())) hv);refine aa q0 ?_;have g0:bm v.2.1 0=some r0:=by rw[hr];rfl
 have g1:bm v.2.1 1=some r1:=by rw[hr];rfl
 refine aa g0 (aa g1 ?_);have ee:(ia zE (b5 s.1 (af o))).1=(b5 s.1 (af o)).getD zE:=dG _ _;have l1:=da (ar o) false v.2.2.1 v.2.2.2;have l2:=da (af o) true ((b5 s.1 (af o)).getD zE).2.1 ((b5 s.1 (af o)).getD zE).2.2;have wr:∀p q:Int,(p=0∨p=1)→(q=0∨q=1)→IntKind.wrap .i64 (IntKind.wrap .i64 (1-p)+IntKind.wrap .i64 (2*q))=1-p+2*q:=fun p q hp hq=>by rw[wrap_small (n:=1-p) (by omega) (by omega),wrap_small (n:=2*q) (by omega) (by omega),wrap_small (by omega) (by omega)]
 have fin:∀(a b:ab),um r0 r1 (af o)=(a,b)→(a.2=0∨a.2=1)→(b.2=0∨b.2=1) →([fH a.1 (ar o) (af o) (IntKind.wrap .i64 (IntKind.wrap .i64 (1-a.2)+IntKind.wrap .i64 (2*b.2)))]++bu (ar o) false v.2.2.1 v.2.2.2)++bu (af o) true ((b5 s.1 (af o)).getD zE).2.1 ((b5 s.1 (af o)).getD zE).2.2=cF s.1 o r0 r1:=fun a b e ha hb=>by unfold cF dZ fJ;rw[e,hv,wr _ _ ha hb];rfl
 have aao:FX G 93 mJ ((af o,true,(ia zE (b5 s.1 (af o))).1.2.1,(ia zE (b5 s.1 (af o))).1.2.2,()),())=some ((bu (af o) true ((b5 s.1 (af o)).getD zE).2.1 ((b5 s.1 (af o)).getD zE).2.2,()),()) :=(congrArg (fun e:aj=>FX G 93 mJ ((af o,true,e.2.1,e.2.2,()),())) ee).trans (M0 hG _ _ _ _);by_cases h:r0.1=af o
 ·have rT:um r0 r1 (af o)=(r1,r0):=if_pos h;refine ae ((iL r0.1 (af o)).trans (decide_eq_true h)) (aa g1 (aa g0 ?_));refine aa (L3 (hG _ _ rfl) s.1 (af o) (by omega)) (aa (M0 hG (ar o) false v.2.2.1 v.2.2.2) ?_);refine ae (fits (show 1+(bu (ar o) false v.2.2.1 v.2.2.2).length≤_ by omega)) (aa aao ?_);refine ae (fits (by rw[List.length_append];show 1+(bu (ar o) false v.2.2.1 v.2.2.2).length+(bu (af o) true ((b5 s.1 (af o)).getD zE).2.1 ((b5 s.1 (af o)).getD zE).2.2).length≤_;omega)) ?_;exact congrArg (fun l:List aE=>some ((l,()),())) (fin r1 r0 rT h1 h0)
 ·have rT:um r0 r1 (af o)=(r0,r1):=if_neg h;refine ah ((iL r0.1 (af o)).trans (decide_eq_false h)) ?_;refine aa (L3 (hG _ _ rfl) s.1 (af o) (by omega)) (aa (M0 hG (ar o) false v.2.2.1 v.2.2.2) ?_);refine ae (fits (show 1+(bu (ar o) false v.2.2.1 v.2.2.2).length≤_ by omega)) (aa aao ?_);refine ae (fits (by rw[List.length_append];show 1+(bu (ar o) false v.2.2.1 v.2.2.2).length+(bu (af o) true ((b5 s.1 (af o)).getD zE).2.1 ((b5 s.1 (af o)).getD zE).2.2).length≤_;omega)) ?_;exact congrArg (fun l:List aE=>some ((l,()),())) (fin r0 r1 rT h0 h1)
theorem aiC(hG:HG G)(s:StateT)(o:aE)(h:cS s)(hf:Fit o):FX G 51 LB ((s,o,()),())=some ((qY s o,()),()):=by
 have hn:=h.n;have hs:=h.d.sm;have vL:=hs.v;have he1:=hs.e;refine aC (hG _ _ rfl) afL ?_;refine aa (Zj hG s o h.d.bd (by omega) (by omega) hf.t) ?_;unfold qY;by_cases h0:(bP s o).2.1=0
 case neg=>rw[if_pos h0];exact ae (show((bP s o).2.1 != 0)=true by simp[h0]) rfl
 rw[if_neg (by simp[h0])];refine ah (show((bP s o).2.1 != 0)=false by simp[h0]) ?_;have hm:=iU h0;obtain⟨k1,k8⟩:=jw hm;have no:∀k:Int,¬o.1=k→(o.1==k)=false:=fun k hk=>by simp[hk]
 have ye:∀k:Int,o.1=k→(o.1==k)=true:=fun k hk=>by simp[hk]
 refine aa (yR (hG _ _ rfl) s.1 (ar o) (by omega)) ?_;have e1:(ia zV (aG s.1 (ar o))).1=(aG s.1 (ar o)).getD zV:=dG _ _;have e2:(ia zE (b5 s.1 (ar o))).1=(b5 s.1 (ar o)).getD zE:=dG _ _;have aao:FX G 93 mJ ((ar o,false,(ia zV (aG s.1 (ar o))).1.2.2.1,(ia zV (aG s.1 (ar o))).1.2.2.2,()),())=some ((bu (ar o) false (dZ s.1 (ar o)).1 (dZ s.1 (ar o)).2,()),()) :=(congrArg (fun e:ai=>FX G 93 mJ ((ar o,false,e.2.2.1,e.2.2.2,()),())) e1).trans (M0 hG _ _ _ _);have hl:=da (ar o) false (dZ s.1 (ar o)).1 (dZ s.1 (ar o)).2;have last:7≤o.1→∀q:ByteArray×Int,q=(if cQ o=true then fJ s.1 (ar o) else dZ s.1 (ar o)) →
   cond (o.1==7) (some (([SR (ar o) (cQ o) q.1],()),())) (some (([Qr (ar o) (cQ o) q.2],()),()))=(some ((qd s.1 o,()),()):Option ((List aE×Unit)×Unit)):=fun h7 q hq=>by
  rw[FV hm h7,←hq];by_cases c:o.1=7
  ·rw[if_pos c];exact ae (ye 7 c) rfl
  ·rw[if_neg c];exact ah (no 7 c) rfl
 have six:o.1=6→∃r0 r1,FX G 95 El ((s,o,()),())=some ((cF s.1 o r0 r1,()),())∧((aG s.1 (ar o)).getD zV).2.1=[r0,r1]:=fun h6=>by obtain⟨v,r0,r1,hv,hr,bp,hor⟩:=vo h0 h6;have Ce:v∈s.1.1:=ab5 hv;have side:∀r∈v.2.1,r.2=0∨r.2=1:=fun r hr=>h.d.side (aM.2 ⟨v,Ce,hr⟩);exact⟨r0,r1,aiB hG s o h hv hr bp hor (side r0 (by rw[hr];simp)) (side r1 (by rw[hr];simp)),by rw[hv];exact hr⟩
 unfold ib
 cases ho:cQ o
 case' true=>refine ae ho (aa (L3 (hG _ _ rfl) s.1 (ar o) (by omega)) ?_)
 case' false=>refine ah ho ?_
 all_goals
  by_cases h1:o.1=1
  ·rw[if_pos h1];exact ae (ye 1 h1) rfl
  rw[if_neg h1];refine ah (no 1 h1) ?_;by_cases h2:o.1=2
  ·rw[if_pos h2];refine ae (ye 2 h2) (aa aao ?_);exact ae (fits (show 1+(bu (ar o) false (dZ s.1 (ar o)).1 (dZ s.1 (ar o)).2).length≤_ by omega)) rfl
  rw[if_neg h2];refine ah (no 2 h2) ?_;by_cases h3:o.1=3
  ·rw[if_pos h3];exact ae (ye 3 h3) rfl
  rw[if_neg h3];refine ah (no 3 h3) ?_;by_cases h4:o.1=4
  ·rw[if_pos h4];have he:=AY h0 h4;exact ae (ye 4 h4) (aa (aiA hG s o h (h.d.gq he (.inl rfl)) (h.d.gq he (.inr rfl))) rfl)
  rw[if_neg h4];refine ah (no 4 h4) ?_;by_cases h5:o.1=5
  ·rw[if_pos h5];exact ae (ye 5 h5) rfl
  rw[if_neg h5];refine ah (no 5 h5) ?_;by_cases h6:o.1=6
  ·rw[if_pos h6];obtain⟨r0,r1,q1,q2⟩:=six h6;rw[q2];exact ae (ye 6 h6) (aa q1 rfl)
  rw[if_neg h6];refine ah (no 6 h6) ?_
 ·exact last (by omega) (ia zV (aG s.1 (ar o))).1.2.2 (by rw[e1,if_neg (by rw[ho];simp)];rfl)
 ·exact last (by omega) (ia zE (b5 s.1 (ar o))).1.2 (by rw[e2,if_pos ho];rfl)
theorem aiD(hG:HG G)(s:StateT)(l:List aE)(hw:cS s)(hl:l.length≤8)(hf:∀o∈l,Fit o):FX G 52 BG ((s,l,()),())=some (ofR s l,()):=by
 have hn:=hw.n;refine aC (hG _ _ rfl) afM ?_;have hbs:Bs 1000 s:=⟨hw.d.bd.mono (by omega),by omega⟩;refine aa (agM hG s l hbs (by omega) fun o ho=>(hf o ho).t) ?_;unfold ofR;by_cases h0:(bC s l).2.1=0
 case neg=>rw[if_pos h0];exact ae (show((bC s l).2.1 != 0)=true by simp[h0]) rfl
 rw[if_neg (by simp[h0])];refine ah (show((bC s l).2.1 != 0)=false by simp[h0]) ?_;have Qc:(ji l s).2.1=0:=by rw[mq h0]at h0;exact h0
 have loop:∀(n i:Nat) (t:StateT) (acc:List aE),i+n=l.length→cS t→(ji (l.drop i) t).2.1=0→acc.length≤5*i → LX G 52 BG Tryz.f52 yF (aY Tryz.prog 52 0) (((i:Int),()),(((t,()),((l,()),())),(acc,())))=some ((mX (l.drop i) t acc,((0:Int),())),()):=by
  intro n
  induction n with
  |zero =>intro i t acc hi ht hg ha;refine aB P4 (ah (decide_eq_false (show ¬((i:Int)<((l.length:Nat):Int)) by omega)) ?_);rw[List.drop_eq_nil_of_le (by omega)];rfl
  |succ n ih =>
   intro i t acc hi ht hg ha;have aK:i<l.length:=by omega
   have hm:=acB aK;have TJ:=ht.n;rw[List.drop_eq_getElem_cons aK]at hg ⊢;obtain⟨g1,g2,_⟩:=go_step hg
   have hx:=aT (aba aK);refine aB P4 (ae (bj aK) (aa hx ?_));refine aa (aiC hG t l[i] ht (hf _ hm)) ?_;have hp:=FY ht l[i];refine ae (fits (show(qY t l[i]).length+acc.length≤_ by omega)) (aa hx ?_);refine aa (Zj hG t l[i] ht.d.bd (by omega) (by omega) (hf _ hm).t) ?_;rw[wI,aN aK (by omega)];exact ih (i+1) _ (qY t l[i]++acc) (by omega) (ht.one l[i]) g2 (by rw[List.length_append];omega)
 exact loop l.length 0 s [] (by omega) hw Qc (by simp)
theorem aiE(hG:HG G)(s:StateT)(l:List aE)(hw:cS s)(hl:l.length≤1073741824)(hf:∀o∈l,Fit o):FX G 54 BI ((s,l,()),())=some (ji l s,()):=by
 refine aC (hG _ _ rfl) afO ?_;have loop:∀(n i:Nat) (t:StateT),i+n=l.length→cS t → LX G 54 BI Tryz.f54 yH (aY Tryz.prog 54 0) ((l,((i:Int),())),(((t,()),((zW,()))),()))=some (ji (l.drop i) t,()):=by
  intro n
  induction n with
  |zero =>intro i t hi ht;refine aB P6 (ah (decide_eq_false (show ¬((i:Int)<((l.length:Nat):Int)) by omega)) ?_);rw[List.drop_eq_nil_of_le (by omega)];rfl
  |succ n ih =>
   intro i t hi ht;have aK:i<l.length:=by omega
   have hm:=acB aK;have TJ:=ht.n;refine aB P6 (ae (bj aK) (aa (aT (aba aK)) ?_));refine aa (Zj hG t l[i] ht.d.bd (by omega) (by omega) (hf _ hm).t) ?_;rw[List.drop_eq_getElem_cons aK,ji];by_cases h1:(bP t l[i]).2.1=0
   ·rw[if_neg (by simp[h1])];refine ah (show((bP t l[i]).2.1 != 0)=false by simp[h1]) ?_;rw[wI,aN aK hl];exact ih (i+1) _ (by omega) (ht.one l[i])
   ·rw[if_pos h1];exact ae (show((bP t l[i]).2.1 != 0)=true by simp[h1]) rfl
 exact loop l.length 0 s (by omega) hw
def su(l:List (List aE)):List (List aE):=(l.take 30).map (·.take 8)
theorem M1(l:List (List aE)):(su l).length≤30:=by unfold su;simp;omega
theorem zn{l:List (List aE)}{e:List aE}(h:e∈su l):e.length≤8∧∃p∈l,∀o∈e,o∈p:=by unfold su at h;obtain⟨p,hp,rfl⟩:=abY.1 h;exact⟨by simp;omega,p,adS hp,fun o ho=>adS ho⟩
theorem M3{l:List (List aE)}(hf:∀e∈l,∀o∈e,Fit o):iZ (su l) :=⟨by have:=M1 l;omega,fun e he=>by have:=(zn he).1;omega,fun e he o ho=>by obtain⟨_,p,hp,hh⟩:=zn he;exact hf p hp o (hh o ho)⟩
theorem XZ(hG:HG G)(l:List (List aE))(hl:l.length≤1073741824):FX G 16 tL ((l,()),())=some ((su l,()),()):=by
 refine aC (hG _ _ rfl) afH ?_;have stop:∀(i:Nat) (out:List (List aE)),out=(l.take i).map (·.take 8)→l.length≤i→i≤30→LX G 16 tL Tryz.f16 rR (aY Tryz.prog 16 0) ((l,((i:Int),())),((),(out,())))=some ((su l,()),()):=by intro i out ho h1 h2;refine aB Jf ?_;refine ah (decide_eq_false (show ¬((i:Int)<((l.length:Nat):Int)) by omega)) ?_;show some ((out,()),())=_;rw[ho,su,List.take_of_length_le h1,List.take_of_length_le (show l.length≤30 by omega)];rfl
 have loop:∀(n i:Nat) (out:List (List aE)),out=(l.take i).map (·.take 8)→i+n=30→i≤l.length→LX G 16 tL Tryz.f16 rR (aY Tryz.prog 16 0) ((l,((i:Int),())),((),(out,())))=some ((su l,()),()):=by
  intro n
  induction n with
  |zero =>
   intro i out ho hi hle;by_cases aK:i<l.length
   case neg=>exact stop i out ho (by omega) (by omega)
   refine aB Jf (ae (bj aK) (ah (decide_eq_false (show ¬((i:Int)<30) by omega)) ?_));show some ((out,()),())=_;rw[ho,su,show i=30 by omega];rfl
  |succ n ih =>
   intro i out ho hi hle;by_cases aK:i<l.length
   case neg=>exact stop i out ho (by omega) (by omega)
   refine aB Jf (ae (bj aK) ?_);refine ae (decide_eq_true (show((i:Int)<30) by omega)) ?_;refine aa (aT (aba aK)) ?_;have hs:(l.take (i+1)).map (·.take 8)=out++[l[i].take 8]:=by rw[ho,List.take_succ_eq_append_getElem aK,List.map_append];rfl
   have hln:out.length≤30:=by rw[ho];simp;omega
   have step:=ih (i+1) (out++[l[i].take 8]) hs.symm (by omega) (by omega);by_cases h:8<l[i].length
   ·refine ae (decide_eq_true (show((l[i].length:Nat):Int)>8 by omega)) ?_;refine ae (by simp[bI];omega) ?_;refine ae (fits (show out.length+1≤_ by omega)) ?_;rw[wI,aN aK hl];exact step
   ·refine ah (decide_eq_false (show ¬((l[i].length:Nat):Int)>8 by omega)) ?_;refine ae (fits (show out.length+1≤_ by omega)) ?_;rw[wI,aN aK hl];rw[List.take_of_length_le (show l[i].length≤8 by omega)]at step;exact step
 exact loop 30 0 [] rfl (by omega) (by omega)
def aiF(o:aE):List ID:=(if o.1=1∨o.1=3 then[ar o] else[])++(if o.1=5 then[cc o,af o] else[])
def aor(e:List aE):Bool:=decide (0<(e.flatMap aiF).length)&&e.all fun o=>decide (o.1=1∨o.1=3)
theorem aiG(hG:HG G)(s:StateT)(l:List (List aE))(hw:cS s)(h:iZ l)(h8:∀e∈l,e.length≤8):FX G 20 BE ((s,l,()),())=some ((oS l s,()),()):=by
 refine aC (hG _ _ rfl) afI ?_;have loop:∀(n i:Nat) (t:StateT),i+n=l.length→cS t → LX G 20 BE Tryz.f20 yD (aY Tryz.prog 20 0) ((l,((i:Int),())),(((t,()),((zW,()))),()))=some ((oS (l.drop i) t,()),()):=by
  intro n
  induction n with
  |zero =>intro i t hi ht;refine aB P2 (ah (decide_eq_false (show ¬((i:Int)<((l.length:Nat):Int)) by omega)) ?_);rw[List.drop_eq_nil_of_le (by omega)];rfl
  |succ n ih =>
   intro i t hi ht;have aK:i<l.length:=by omega
   have hm:=acB aK;have TJ:=ht.n;have hbs:Bs 1000 t:=⟨ht.d.bd.mono (by omega),by omega⟩;refine aB P2 (ae (bj aK) (aa (aT (aba aK)) ?_));refine aa (agN hG t l[i] hbs (by have:=h8 _ hm;omega) fun o ho=>(h.f _ hm o ho).t) ?_;rw[wI,aN aK h.n,List.drop_eq_getElem_cons aK,oS];exact ih (i+1) _ (by omega) (ht.try l[i])
 exact loop l.length 0 s (by omega) hw
def asY(h:iW)(n:Int):List (List aE)×(Int×Unit):=if hIn h n then((Kf h).drop (n-Tn h).toNat,(0,())) else([],(26,()))
theorem Iq:∀(l:List aE) {s:StateT} {acc:List aE},cS s→(∀p∈acc,bg p=0)→∀p∈mX l s acc,bg p=0
 |[],_,_,_,h=>h
 |o::r,s,acc,hs,h=>Iq r (hs.one o) fun p hp=>(abH.1 hp).elim (XY hs o p) (h p)
theorem q8:∀(l:List aE) {s:StateT} {acc:List aE},cS s→(mX l s acc).length≤acc.length+5*l.length
 |[],_,_,_=>by simp[mX]
 |o::r,s,acc,hs=>by have h1:=q8 r (acc:=qY s o++acc) (hs.one o);have h2:=FY hs o;rw[List.length_append]at h1;show(mX r (bP s o).1 (qY s o++acc)).length≤_;rw[List.length_cons];omega
theorem aap{s:StateT}{l:List aE}(hs:cS s)(hg:bN s.1=0)(h0:(bC s l).2.1=0){u:StateT}(hu:cS u)(e:u.1=(bC s l).1.1) :
  ∃w,cS w∧w.1=s.1∧ji (mX l s []) u=(w,(0,()))∧F5 (mX l s []) u:=by
 have ha:=mq h0;rw[ha]at h0 e;obtain⟨w,q1,q2,q3,q4⟩:=Io l [] hs hg (show ji l s=((ji l s).1,(0,())) from Prod.ext rfl (Prod.ext h0 rfl)) hu e;exact⟨w,q1,q2,q3,q4 trivial⟩
def gW:List (List aE)→StateT→List aE→StateT×List aE
 |[],s,b=>(s,b)
 |e::r,s,b=>gW r (iM s e) (if(bC s e).2.1=0 then mX e s []++b else b)
theorem M4:∀(l:List (List aE)) {s:StateT},cS s→bN s.1=0→bN (oS l s).1=0
 |[],_,_,h=>h
 |e::r,_,hw,h=>M4 r (hw.try e) (MO hw h e)
theorem zo:∀(l:List (List aE)) {s:StateT} {b:List aE},cS s→cS (gW l s b).1
 |[],_,_,h=>h
 |e::r,_,_,h=>zo r (h.try e)
theorem F9:∀(l:List (List aE)) {s:StateT} {b:List aE},cS s→(∀e∈l,e.length≤8)→(gW l s b).2.length≤b.length+40*l.length
 |[],_,_,_,_=>by simp[gW]
 |e::r,s,b,h,h8=>by
  have h1:=F9 r (b:=if(bC s e).2.1=0 then mX e s []++b else b) (h.try e) (fun e he=>h8 e (aa5 _ he));have h2:=q8 e (acc:=[]) h;have h3:=h8 e (abu ..);show(gW r (iM s e) (if(bC s e).2.1=0 then mX e s []++b else b)).2.length≤_;rw[List.length_cons]
  split at h1
  ·rename_i k;rw[if_pos k];rw[List.length_append]at h1;simp only[List.length_nil]at h2;omega
  ·rename_i k;rw[if_neg k];omega
theorem Ga:∀(l:List (List aE)) {s:StateT} {b:List aE},cS s→(∀p∈b,bg p=0)→∀p∈(gW l s b).2,bg p=0
 |[],_,_,_,h=>h
 |e::r,s,b,hs,h=>Ga r (hs.try e) (by
  split
  ·intro p hp;exact(abH.1 hp).elim (Iq e hs (fun p hp=>by cases hp) p) (h p)
  ·exact h)
theorem Ir:∀(l:List (List aE)) {s u:StateT} {b:List aE},cS s→bN s.1=0→cS u→u.1=(gW l s b).1.1 → ∃w,cS w∧w.1=s.1∧ji (gW l s b).2 u=ji b w
 |[],s,u,b,_,_,hu,e=>⟨u,hu,e,rfl⟩
 |e::r,s,u,b,hs,hg,hu,he=>by
  obtain⟨w,w1,w2,w3⟩:=Ir r (hs.try e) (MO hs hg e) hu he;by_cases h0:(bC s e).2.1=0
  ·rw[Ph h0]at w2;obtain⟨z,z1,z2,z3,_⟩:=aap hs hg h0 w1 w2;refine⟨z,z1,z2,w3.trans ?_⟩;rw[if_pos h0];exact F6 z3
  ·rw[QU h0]at w2;refine⟨w,w1,w2,w3.trans ?_⟩;rw[if_neg h0]
theorem aiH(hG:HG G)(py:∀o,fP G o)(s:StateT)(e:List aE)(b:List aE)(hw:cS s)(he:e.length≤8)(hf:∀o∈e,Fit o)(hb:b.length≤1000000) :
  FX G 99 LI ((s,e,()),((b,()),()))=some ((),((if(bC s e).2.1=0 then mX e s []++b else b,()),())):=by
 refine aC (hG _ _ rfl) af1 ?_;refine aa (aic hG py s e hw he hf) ?_;have h2:=q8 e (acc:=[]) hw;unfold ofR;by_cases h0:(bC s e).2.1=0
 ·rw[if_neg (by simp[h0]),if_pos h0];exact ae rfl (ae (fits (show(mX e s []).length+b.length≤_ by simp only[List.length_nil]at h2;omega)) rfl)
 ·rw[if_pos h0,if_neg h0];exact ah (show((bC s e).2.1==0)=false by simp[h0]) rfl
theorem aiI(hG:HG G)(py:∀o,fP G o)(s:StateT)(l:List (List aE))(hw:cS s)(h:iZ l)(h8:∀e∈l,e.length≤8)(hl:l.length≤30):FX G 56 LC ((s,l,()),())=some (ji (gW l s []).2 (gW l s []).1,()):=by
 refine aC (hG _ _ rfl) afP ?_;have loop:∀(n i:Nat) (t:StateT) (b:List aE),i+n=l.length→cS t→b.length≤40*i → LX G 100060 l6 Tryz.f60 oi (aY Tryz.prog 60 0) ((l,(((l.length:Nat):Int),((i:Int),()))),(((b,()),(zW,((t,()),()))),()))=some (((gW (l.drop i) t b).1,()),(((gW (l.drop i) t b).2,()),())):=by
  intro n
  induction n with
  |zero =>intro i t b hi ht hb;refine aB ER (ah (decide_eq_false (show ¬((i:Int)<((l.length:Nat):Int)) by omega)) ?_);rw[List.drop_eq_nil_of_le (by omega)];rfl
  |succ n ih =>
   intro i t b hi ht hb;have aK:i<l.length:=by omega
   have hm:=acB aK;refine aB ER (ae (bj aK) (aa (aT (aba aK)) ?_));refine aa (aiH hG py t l[i] b ht (h8 _ hm) (h.f _ hm) (by omega)) (aa (Pj hG py h hm t ht) ?_);rw[wI,aN aK h.n,List.drop_eq_getElem_cons aK];have h2:=q8 l[i] (acc:=[]) ht;have h3:=h8 _ hm;exact ih (i+1) _ (if(bC t l[i]).2.1=0 then mX l[i] t []++b else b) (by omega) (ht.try l[i]) (by
    split
    ·rw[List.length_append];simp only[List.length_nil]at h2;omega
    ·omega)
 have h1:FX G 100060 l6 ((s,l,()),(([],()),()))=some (((gW l s []).1,()),(((gW l s []).2,()),())):=by refine aC (hG _ _ rfl) VT ?_;refine aa (Pk hG py s hw) ?_;exact loop l.length 0 s [] (by omega) hw (by simp)
 have hlen:=F9 l (b:=[]) hw h8;have Pp:=Ga l (b:=[]) hw (fun p hp=>by cases hp);refine aa h1 (aa (aid hG py (gW l s []).1 (gW l s []).2 (zo l hw) (by simp only[List.length_nil]at hlen;omega) fun o ho=>Re (Pp o ho)) rfl)
theorem aiJ(hG:HG G)(s:StateT)(l:List (List aE))(hw:cS s)(h:iZ l)(h8:∀e∈l,e.length≤8)(hl:l.length≤30):FX G 57 BJ ((s,l,()),())=some (ji (gW l s []).2 (gW l s []).1,()):=by
 refine aC (hG _ _ rfl) afQ ?_;have hlen:=F9 l (b:=[]) hw h8;have Pp:=Ga l (b:=[]) hw (fun p hp=>by cases hp);have hwu:=zo l (b:=[]) hw;have loop:∀(n i:Nat) (t:StateT) (b:List aE),i+n=l.length→cS t→b.length≤40*i→gW (l.drop i) t b=gW l s [] → LX G 57 BJ Tryz.f57 uY (aY Tryz.prog 57 0) ((l,((i:Int),())),(((t,()),(zW,())),(b,())))=some (ji (gW l s []).2 (gW l s []).1,()):=by
  intro n
  induction n with
  |zero =>intro i t b hi ht hb hu;rw[List.drop_eq_nil_of_le (by omega)]at hu;have hu:(t,b)=gW l s []:=hu;refine aB P7 (ah (decide_eq_false (show ¬((i:Int)<((l.length:Nat):Int)) by omega)) ?_);rw[←hu]at Pp hlen ⊢;exact aa (aiE hG t b ht (by omega) fun o ho=>Re (Pp o ho)) rfl
  |succ n ih =>
   intro i t b hi ht hb hu;have aK:i<l.length:=by omega
   have hm:=acB aK;have hx:=aT (aba aK);have TJ:=ht.n;have hbs:Bs 1000 t:=⟨ht.d.bd.mono (by omega),by omega⟩;have h2:=q8 l[i] (acc:=[]) ht;simp only[List.length_nil]at h2;have h3:=h8 _ hm;rw[List.drop_eq_getElem_cons aK]at hu;have hu:gW (l.drop (i+1)) (iM t l[i]) (if(bC t l[i]).2.1=0 then mX l[i] t []++b else b)=gW l s []:=hu;refine aB P7 (ae (bj aK) (aa hx ?_));refine aa (aiD hG t l[i] ht h3 (h.f _ hm)) ?_;have f37:=agN hG t l[i] hbs (by omega) fun o ho=>(h.f _ hm o ho).t;unfold ofR;by_cases h0:(bC t l[i]).2.1=0
   ·rw[if_neg (by simp[h0])];rw[if_pos h0]at hu;refine ae rfl (ae (fits (show 0+(mX l[i] t []).length≤_ by omega)) (ae (fits (show(mX l[i] t []).length+b.length≤_ by omega)) (aa hx (aa f37 ?_))));rw[wI,aN aK h.n];exact ih (i+1) _ (mX l[i] t []++b) (by omega) (ht.try l[i]) (by rw[List.length_append];omega) hu
   ·rw[if_pos h0];rw[if_neg h0]at hu;refine ah (show((bC t l[i]).2.1==0)=false by simp[h0]) (aa hx (aa f37 ?_));rw[wI,aN aK h.n];exact ih (i+1) _ b (by omega) (ht.try l[i]) (by omega) hu
 exact loop l.length 0 s [] (by omega) hw (by simp) rfl
theorem aaq(hG:HG G)(py:∀o,fP G o)(a l:List (List aE))(ha:a.length≤1073741824)(hl:l.length≤1073741824)(hfa:∀e∈a,∀o∈e,Fit o)(hfl:∀e∈l,∀o∈e,Fit o):FX G 13 Hy ((a,l,()),())=some ((true,()),()):=by refine aC (hG _ _ rfl) afF ?_;refine aa (ah3 hG py) (aa (XZ hG a ha) ?_);refine aa (aiG hG zS (su a) cS.zero (M3 hfa) fun e he=>(zn he).1) ?_;have hw:=cS.all (su a) cS.zero;have hg:=M4 (su a) cS.zero cd;generalize oS (su a) zS=s at *;have r8:∀e∈su l,e.length≤8:=fun e he=>(zn he).1;have hr:=M3 hfl;have hn:=M1 l;refine aa (XZ hG l hl) (aa (aiI hG py s (su l) hw hr r8 hn) (aa (XZ hG l hl) (aa (aiJ hG s (su l) hw hr r8 hn) ?_)));obtain⟨w,w1,w2,w3⟩:=Ir (su l) (b:=[]) hw hg (zo (su l) hw) rfl;rw[w3];have hwn:=w1.n;refine aa (al7 hG w w w1.d.sm (by omega)) ?_;rw[decide_eq_true rfl];refine ae rfl (ae rfl (ae rfl (ae rfl (aa (agE hG w.1 s.1 w1.d.sm) ?_))));rw[decide_eq_true w2];rfl
theorem adw(a l:List (List aE))(wa:Qh (.sl mI) a)(wl:Qh (.sl mI) l)(hb:gx (.sl mI) a+gx (.sl mI) l≤1048576):FX GP 13 Hy ((a,l,()),())=some ((true,()),()):=by obtain⟨a1,a2⟩:=BM (l:=a) (m:=1048576) (by omega);obtain⟨l1,l2⟩:=BM (l:=l) (m:=1048576) (by omega);exact aaq hgP ahX a l (by omega) (by omega) (fun e he o ho=>XH (wa e he o ho) (by have:=a2 e he o ho;unfold ua;omega)) (fun e he o ho=>XH (wl e he o ho) (by have:=l2 e he o ho;unfold ua;omega))
end Go.Vs
