/- HistPlays answers true -/
import Derived.Test.YtpkfpbpbkabkdaaGreatHist
set_option linter.unusedVariables false
set_option linter.unusedSimpArgs false
set_option maxRecDepth 1000000
set_option maxHeartbeats 0
namespace Go.Vs
open Go.Proofs
theorem acU{F:FT}{J:JT uN}{x:(((List ((List aY)×ID))×(Int×Unit))×Unit)}:bO 7 uN Tryz.f7 F J x =(F 23 Hm ((),())).bind fun(y1:Q0) =>cond (not y1.1.1) (some ((false,()),())) (J mz (aN Tryz.prog 7 0) ((x.1.1,(x.1.2.1,((0:Int),()))),(((OS,((0:Int),(([]:List (List aY)),()))),((OS,((0:Int),(([]:List (List aY)),()))),())),()))):=by kernel_rfl
theorem UO{F:FT}{J:JT uN}{x:(((List ((List aY)×ID))×(Int×(Int×Unit)))×((bS×(bS×Unit))×Unit))}:fJ 7 0 uN Tryz.f7 mz F J x = cond (decide (x.1.2.2.1<(lI x.1.1))) (cond (decide (x.1.2.2.1<80)) (cond ((9:Int)==0) (none) (cond ((Int.tmod x.1.2.2.1 (9:Int))==8) ((F 26 Dz (((77:Int),()),())).bind fun(y2:Q3) =>(F 25 xT (y2.1,(x.2.1.1,()))).bind fun(y3:Yp) =>(F 28 my ((),(y3.2.1,()))).bind fun(y4:Q9) =>(F 27 xU (y4.1,(y4.2.1,()))).bind fun(y5:Q9) =>((aT x.1.1 x.1.2.2.1)).bind fun(y6:SF) =>(F 30 xV ((y6.1,()),())).bind fun(y7:Q3) =>(F 25 xT (y7.1,(x.2.1.1,()))).bind fun(y8:Yp) =>((aT x.1.1 x.1.2.2.1)).bind fun(y9:SF) =>(F 30 xV ((y9.1,()),())).bind fun(py:Q3) =>(F 36 DB (py.1,(x.2.1.2.1,()))).bind fun(kN:Yp) =>cond (y8.1.1 != kN.1.1) (some ((false,()),())) (cond (y8.1.2.1 != kN.1.2.1) (some ((false,()),())) (((aT x.1.1 x.1.2.2.1)).bind fun(pQ:SF) =>cond ((dR .and .i64 pQ.2.1 (1:Int))==1) (((aT x.1.1 x.1.2.2.1)).bind fun(kO:SF) =>(F 27 xU ((kO.2.2,()),(y8.2.1,()))).bind fun(CP:Q9) =>((aT x.1.1 x.1.2.2.1)).bind fun(tN:SF) =>(F 37 DC ((tN.2.2,()),(kN.2.1,()))).bind fun(N6:Q9) =>cond (CP.1.1 != N6.1.1) (some ((false,()),())) (cond (CP.2.1.2.1 != N6.2.1.2.1) (some ((false,()),())) ((F 28 my ((),(CP.2.1,()))).bind fun(Qc:Q9) =>(F 38 sH ((),(N6.2.1,()))).bind fun(TE:Q9) =>cond (Qc.1.1 != TE.1.1) (some ((false,()),())) (J mz (aN Tryz.prog 7 0) ((x.1.1,(x.1.2.1,((wI (x.1.2.2.1+1)),()))),((Qc.2.1,(TE.2.1,())),())))))) (cond (y8.2.1.2.1 != kN.2.1.2.1) (some ((false,()),())) ((F 28 my ((),(y8.2.1,()))).bind fun(Qo:Q9) =>(F 38 sH ((),(kN.2.1,()))).bind fun(DH:Q9) =>cond (Qo.1.1 != DH.1.1) (some ((false,()),())) (J mz (aN Tryz.prog 7 0) ((x.1.1,(x.1.2.1,((wI (x.1.2.2.1+1)),()))),((Qo.2.1,(DH.2.1,())),())))))))) (((aT x.1.1 x.1.2.2.1)).bind fun(Zt:SF) =>(F 30 xV ((Zt.1,()),())).bind fun(Zu:Q3) =>(F 25 xT (Zu.1,(x.2.1.1,()))).bind fun(y23:Yp) =>((aT x.1.1 x.1.2.2.1)).bind fun(y24:SF) =>(F 30 xV ((y24.1,()),())).bind fun(y25:Q3) =>(F 36 DB (y25.1,(x.2.1.2.1,()))).bind fun(y26:Yp) =>cond (y23.1.1 != y26.1.1) (some ((false,()),())) (cond (y23.1.2.1 != y26.1.2.1) (some ((false,()),())) (((aT x.1.1 x.1.2.2.1)).bind fun(y27:SF) =>cond ((dR .and .i64 y27.2.1 (1:Int))==1) (((aT x.1.1 x.1.2.2.1)).bind fun(y28:SF) =>(F 27 xU ((y28.2.2,()),(y23.2.1,()))).bind fun(y29:Q9) =>((aT x.1.1 x.1.2.2.1)).bind fun(y30:SF) =>(F 37 DC ((y30.2.2,()),(y26.2.1,()))).bind fun(y31:Q9) =>cond (y29.1.1 != y31.1.1) (some ((false,()),())) (cond (y29.2.1.2.1 != y31.2.1.2.1) (some ((false,()),())) ((F 28 my ((),(y29.2.1,()))).bind fun(y32:Q9) =>(F 38 sH ((),(y31.2.1,()))).bind fun(y33:Q9) =>cond (y32.1.1 != y33.1.1) (some ((false,()),())) (J mz (aN Tryz.prog 7 0) ((x.1.1,(x.1.2.1,((wI (x.1.2.2.1+1)),()))),((y32.2.1,(y33.2.1,())),())))))) (cond (y23.2.1.2.1 != y26.2.1.2.1) (some ((false,()),())) ((F 28 my ((),(y23.2.1,()))).bind fun(y34:Q9) =>(F 38 sH ((),(y26.2.1,()))).bind fun(y35:Q9) =>cond (y34.1.1 != y35.1.1) (some ((false,()),())) (J mz (aN Tryz.prog 7 0) ((x.1.1,(x.1.2.1,((wI (x.1.2.2.1+1)),()))),((y34.2.1,(y35.2.1,())),())))))))))) ((F 31 AU ((x.1.2.1,()),(x.2.1.1,()))).bind fun(y36:Yq) =>(F 39 AW ((x.1.2.1,()),(x.2.1.2.1,()))).bind fun(y37:Yq) =>(F 32 sG ((x.1.2.1,()),(y36.2.1,()))).bind fun(y38:Q41) =>(F 40 DD ((x.1.2.1,()),(y37.2.1,()))).bind fun(y39:Q41) =>(F 22 GK ((y36.1.1,(y37.1.1,())),())).bind fun(y40:Q0) =>(F 33 uM ((y38.1.1,(y39.1.1,())),())).bind fun(y41:Q0) =>(F 34 DA ((),(y38.2.1,()))).bind fun(y42:Q42) =>(F 41 DE ((),(y39.2.1,()))).bind fun(y43:Q42) =>(F 22 GK ((y42.1.1,(y43.1.1,())),())).bind fun(y44:Q0) =>cond y40.1.1 (cond (y36.1.2.1==y37.1.2.1) (cond y41.1.1 (cond (y38.1.2.1==y39.1.2.1) (some (y44.1,())) (some ((false,()),()))) (some ((false,()),()))) (some ((false,()),()))) (some ((false,()),())))) ((F 31 AU ((x.1.2.1,()),(x.2.1.1,()))).bind fun(y45:Yq) =>(F 39 AW ((x.1.2.1,()),(x.2.1.2.1,()))).bind fun(y46:Yq) =>(F 32 sG ((x.1.2.1,()),(y45.2.1,()))).bind fun(y47:Q41) =>(F 40 DD ((x.1.2.1,()),(y46.2.1,()))).bind fun(y48:Q41) =>(F 22 GK ((y45.1.1,(y46.1.1,())),())).bind fun(y49:Q0) =>(F 33 uM ((y47.1.1,(y48.1.1,())),())).bind fun(y50:Q0) =>(F 34 DA ((),(y47.2.1,()))).bind fun(y51:Q42) =>(F 41 DE ((),(y48.2.1,()))).bind fun(y52:Q42) =>(F 22 GK ((y51.1.1,(y52.1.1,())),())).bind fun(y53:Q0) =>cond y49.1.1 (cond (y45.1.2.1==y46.1.2.1) (cond y50.1.1 (cond (y47.1.2.1==y48.1.2.1) (some (y53.1,())) (some ((false,()),()))) (some ((false,()),()))) (some ((false,()),()))) (some ((false,()),()))):=by kernel_rfl
theorem acX{F:FT}{J:JT DB}{x:(((List aY)×Unit)×(bS×Unit))}:bO 36 DB Tryz.f36 F J x =(F 69 EN (x.1,())).bind fun(y1:Q2) =>cond (y1.1.1 != 0) (some (((0:Int),y1.1),(x.2.1,()))) (cond (decide ((lI x.2.1.2.2.1)≥64)) (some (((0:Int),((20:Int),())),(x.2.1,()))) (cond (((not (List.isEmpty x.2.1.2.2.1)) || true)&&(aK (List.length ([]:List (List aY))) (List.length x.2.1.2.2.1))) (cond (aK (List.length (([]:List (List aY))++x.2.1.2.2.1)) (List.length (x.1.1::([]:List (List aY))))) ((F 38 sH ((),((x.2.1.1,(x.2.1.2.1,(((([]:List (List aY))++x.2.1.2.2.1)++(x.1.1::([]:List (List aY)))),()))),()))).bind fun(y2:Q9) =>some ((y2.1.1,((0:Int),())),(y2.2.1,()))) (none)) (none))):=by kernel_rfl
end Go.Vs
namespace Go.Vs
open Go.Proofs
variable {G:(f:FuncId)→(g:aL)→Option (g.A→Option g.B)}
theorem V9(hG:HG G)(s:StateT)(l:List (List aY))(hw:fb s)(h:kH l)(h8:∀e∈l,e.length≤8):FX G 20 sF ((s,l,()),())=some ((o8 l s,()),()):=by
 refine aq (hG _ _ rfl) aaw ?_;have loop:∀(n i:Nat) (t:StateT),i+n=l.length→fb t → LX G 20 sF Tryz.f20 uZ (aN Tryz.prog 20 0) ((l,((i:Int),())),(((t,()),((zW,()))),()))=some ((o8 (l.drop i) t,()),()):=by
  intro n
  induction n with
  |zero =>intro i t hi ht;refine au Lg (af (decide_eq_false (show ¬((i:Int)<((l.length:Nat):Int)) by omega)) ?_);rw[List.drop_eq_nil_of_le (by omega)];rfl
  |succ n ih =>
   intro i t hi ht;have aF:i<l.length:=by omega
   have hm:=adr aF;have WW:=ht.n;have hbs:Bs 1000 t:=⟨ht.d.bd.mono (by omega),by omega⟩;refine au Lg (ae (aX aF) (aa (aJ (aci aF)) ?_));refine aa (agK hG t l[i] hbs (by have:=h8 _ hm;omega) fun o ho=>(h.f _ hm o ho).t) ?_;rw[wI,aG aF h.n,List.drop_eq_getElem_cons aF,o8];exact ih (i+1) _ (by omega) (ht.try l[i])
 exact loop l.length 0 s (by omega) hw
theorem acY(hG:HG G)(a:List aY)(hl:a.length≤1073741824):FX G 68 xW ((a,a,()),())=some ((true,()),()):=by
 refine aq (hG _ _ rfl) aaO ?_;refine af (show((((a.length:Nat):Int)) != ((a.length:Nat):Int))=false by simp) ?_;have loop:∀(n i:Nat),i+n=a.length→LX G 68 xW Tryz.f68 u6 (aN Tryz.prog 68 0) (((i:Int),()),(((a,()),((a,()),())),()))=some ((true,()),()):=by
  intro n
  induction n with
  |zero =>intro i hi;exact au Lj (af (decide_eq_false (show ¬((i:Int)<((a.length:Nat):Int)) by omega)) rfl)
  |succ n ih =>
   intro i hi;have aF:i<a.length:=by omega
   have hx:=aJ (aci aF);refine au Lj (ae (aX aF) (aa hx (aa hx ?_)));refine af (show(!(vl a[i] a[i]))=false by rw[(vm _ _).2 rfl];rfl) ?_;rw[wI,aG aF hl];exact ih (i+1) (by omega)
 exact loop a.length 0 (by omega)
theorem acZ(hG:HG G)(a:List (List aY))(h:kH a):FX G 33 uM ((a,a,()),())=some ((true,()),()):=by
 refine aq (hG _ _ rfl) aaF ?_;refine af (show((((a.length:Nat):Int)) != ((a.length:Nat):Int))=false by simp) ?_;have loop:∀(n i:Nat),i+n=a.length→LX G 33 uM Tryz.f33 u5 (aN Tryz.prog 33 0) ((a,(a,((i:Int),()))),((),()))=some ((true,()),()):=by
  intro n
  induction n with
  |zero =>intro i hi;exact au Li (af (decide_eq_false (show ¬((i:Int)<((a.length:Nat):Int)) by omega)) rfl)
  |succ n ih =>
   intro i hi;have aF:i<a.length:=by omega
   have hx:=aJ (aci aF);refine au Li (ae (aX aF) (aa hx (aa hx (aa (acY hG a[i] (h.e _ (adr aF))) (af rfl ?_)))));rw[wI,aG aF h.n];exact ih (i+1) (by omega)
 exact loop a.length 0 (by omega)
theorem ac0(hG:HG G)(l:List aY):FX G 30 xV ((l,()),())=some ((l.take 8,()),()):=by
 refine aq (hG _ _ rfl) aaC ?_;by_cases h:8<l.length
 ·have d1:decide (((l.length:Nat):Int)>8)=true:=decide_eq_true (by omega);have d2:aH l.length 0 8=true:=by simp[aH];omega
  simp only[d1,d2];rfl
 ·have d1:decide (((l.length:Nat):Int)>8)=false:=decide_eq_false (by omega);rw[List.take_of_length_le (by omega)];simp only[d1];rfl
theorem ac1(hG:HG G)(w5:∀o,il G o){m:Nat}(h:bS)(ho:tL m h):FX G 34 DA ((),(h,()))=some ((o8 (c6 h) (Ed h),()),(h,())):=by refine aq (hG _ _ rfl) aaG ?_;exact aa (VZ hG w5 (Ed h) (c6 h) ho.b ho.r) rfl
def NW(h:bS)(n:Int):List (List aY)×(Int×Unit):=if hIn h n then((c6 h).drop (n-fZ h).toNat,(0,())) else([],(26,()))
theorem ac2(hG:HG G){m:Nat}(h:bS)(ho:tL m h)(h8:∀e∈c6 h,e.length≤50000000)(n:Int):FX G 32 sG ((n,()),(h,()))=some (NW h n,(h,())):=by
 refine aq (hG _ _ rfl) aaE ?_;have h1:=ho.f0;have h2:=ho.f1;have h3:=ho.n;have h4:=ho.m1;have hl:Ck h=fZ h+((c6 h).length:Nat):=rfl;unfold NW;by_cases ha:n<fZ h
 ·rw[if_neg (show ¬hIn h n by unfold hIn;omega)];exact ae (decide_eq_true ha) rfl
 refine af (decide_eq_false ha) (aa (Cl hG h ho) ?_);by_cases hb:n>Ck h
 ·rw[if_neg (show ¬hIn h n by unfold hIn;omega)];exact ae (decide_eq_true hb) rfl
 refine af (decide_eq_false hb) ?_;rw[if_pos (show hIn h n by unfold hIn;omega)];obtain⟨k,hk⟩:∃k:Nat,n=fZ h+k:=⟨(n-fZ h).toNat,by omega⟩;have ew:IntKind.wrap .i64 (n-fZ h)=(k:Int):=by rw[wrap_small (by omega) (by omega)];omega
 refine ae (show aH (c6 h).length (IntKind.wrap .i64 (n-fZ h)) (((c6 h).length:Nat):Int)=true by rw[ew];simp[aH];omega) ?_;have ec:cut (c6 h) (IntKind.wrap .i64 (n-fZ h)) (((c6 h).length:Nat):Int)=(c6 h).drop k:=by rw[ew];unfold cut;rw[List.take_of_length_le (by omega)];rfl
 have ek:(n-fZ h).toNat=k:=by omega
 rw[ek];have hq8:∀e∈(c6 h).drop k,e.length≤50000000:=fun e he=>h8 e (adF he);have hql:((c6 h).drop k).length≤64:=by rw[List.length_drop];omega
 have loop:∀(q:List (List aY)),(∀e∈q,e.length≤50000000)→q.length≤64→∀(j i:Nat) (out:List (List aY)),out=q.take i→i+j=q.length → LX G 32 sG Tryz.f32 rC (aN Tryz.prog 32 0) ((q,(((q.length:Nat):Int),((i:Int),()))),(((h,()),(out,()))))=some ((q,((0:Int),())),(h,())):=by
  intro q hq8 hql j
  induction j with
  |zero =>intro i out oJ hi;refine au Lh (af (decide_eq_false (show ¬((i:Int)<((q.length:Nat):Int)) by omega)) ?_);show some ((out,((0:Int),())),(h,()))=_;rw[oJ,List.take_of_length_le (by omega)];rfl
  |succ j ih =>
   intro i out oJ hi;have aF:i<q.length:=by omega
   refine au Lh (ae (aX aF) (aa (aJ (aci aF)) (aa (V5 hG q[i] (hq8 _ (adr aF))) ?_)));have TV:out.length≤64:=by rw[oJ];simp;omega
   refine ae (fits (show out.length+1≤_ by omega)) ?_;rw[wI,aG aF (by omega)];exact ih (i+1) (out++[q[i]]) (by rw[oJ,List.take_succ_eq_append_getElem aF]) (by omega)
 exact(congrArg (fun q:List (List aY)=>LX G 32 sG Tryz.f32 rC (aN Tryz.prog 32 0) ((q,(((q.length:Nat):Int),((0:Int),()))),(((h,()),(([]:List (List aY)),()))))) ec).trans (loop _ hq8 hql ((c6 h).drop k).length 0 [] rfl (by omega))
theorem L5(hG:HG G){m:Nat}(h:bS)(ho:tL m h):FX G 38 sH ((),(h,()))=some ((Ck h,()),(h,())):=by refine aq (hG _ _ rfl) aaI ?_;have h1:=ho.f0;have h2:=ho.f1;have h3:=ho.n;have h4:=ho.m1;have hl:Ck h=fZ h+((c6 h).length:Nat):=rfl;have e:IntKind.wrap .i64 (fZ h+(((c6 h).length:Nat):Int))=Ck h:=wrap_small (by omega) (by omega);exact congrArg (fun n:Int=>some ((n,()),(h,()))) e
theorem NX{h:bS}{e:List aY}(h0:cg e=0)(Yb:¬64≤(c6 h).length):qS h e=((Ck h+1,(0,())),(Ed h,(fZ h,(c6 h++[e],())))):=by unfold qS;rw[if_neg (by simp[h0]),if_neg Yb]
theorem Sp(h:bS)(e:List aY):Ck (Ed h,(fZ h,(c6 h++[e],())))=Ck h+1:=by show fZ h+(((c6 h++[e]).length:Nat):Int)=fZ h+(((c6 h).length:Nat):Int)+1;rw[List.length_append];simp only[List.length_cons,List.length_nil];omega
theorem ac3(hG:HG G){m:Nat}(h:bS)(ho:tL m h)(hm:m<1000000000)(e:List aY)(he:e.length≤50000000)(hf:∀o∈e,Fit o):FX G 36 DB ((e,()),(h,()))=some ((qS h e).1,((qS h e).2,())):=by
 refine aq (hG _ _ rfl) acX ?_;refine aa (aby hG e fun o ho=>(hf o ho).t) ?_;have ha:=ho.add hm (e:=e) (by omega) hf;by_cases h0:cg e=0
 case neg=>unfold qS;rw[if_pos h0];exact ae (show(cg e != 0)=true by simp[h0]) rfl
 refine af (show(cg e != 0)=false by simp[h0]) ?_;by_cases Yb:64≤(c6 h).length
 ·unfold qS;rw[if_neg (by simp[h0]),if_pos Yb];exact ae (decide_eq_true (show(((c6 h).length:Nat):Int)≥64 by omega)) rfl
 rw[NX h0 Yb]at ha ⊢;refine af (decide_eq_false (show ¬(((c6 h).length:Nat):Int)≥64 by omega)) ?_;refine ae (db (Bool.or_true _) (fits (show 0+(c6 h).length≤_ by omega))) (ae (fits (show(c6 h).length+1≤_ by omega)) ?_);refine aa (L5 hG _ ha) ?_;exact congrArg (fun n:Int=>(some ((n,((0:Int),())),((Ed h,(fZ h,(c6 h++[e],()))),())):Option ((Int×(Int×Unit))×(bS×Unit)))) (Sp h e)
theorem Wa(hG:HG G){m:Nat}(h:bS)(ho:tL m h)(n:Int):FX G 70 DG ((n,()),(h,()))=some ((decide (hIn h n),()),(h,())):=by
 refine aq (hG _ _ rfl) aaP ?_;by_cases ha:n≥fZ h
 ·refine ae (decide_eq_true ha) (aa (L5 hG h ho) ?_);have:decide (n≤Ck h)=decide (hIn h n):=decide_eq_decide.2 ⟨fun q=>⟨ha,q⟩,fun q=>q.2⟩;exact congrArg (fun b:Bool=>some ((b,()),(h,()))) this
 ·rw[decide_eq_false (show ¬hIn h n from fun q=>ha q.1)];exact af (decide_eq_false ha) rfl
theorem tL.at{m:Nat}{h:bS}(ho:tL m h){n:Int}(hi:hIn h n):∃k:Nat,k≤(c6 h).length∧IntKind.wrap .i64 (n-fZ h)=(k:Int)∧(n-fZ h).toNat=k:=by have h1:=ho.f0;have h2:=ho.f1;have h3:=ho.n;have h4:=ho.m1;have hl:Ck h=fZ h+((c6 h).length:Nat):=rfl;unfold hIn at hi;refine⟨(n-fZ h).toNat,by omega,?_,rfl⟩;rw[wrap_small (by omega) (by omega)];omega
theorem Yc{α:Type}(l:List α)(k:Nat):cut l 0 (k:Int)=l.take k:=by unfold cut;rw[show Int.toNat (0:Int)=0 from rfl,List.drop_zero];rfl
theorem II{α:Type}(l:List α)(k:Nat):cut l (k:Int) ((l.length:Nat):Int)=l.drop k:=by unfold cut;rw[List.take_of_length_le (by omega)];rfl
theorem Wb(hG:HG G){m:Nat}(h:bS)(ho:tL m h)(h8:∀e∈c6 h,e.length≤8)(n:Int):FX G 39 AW ((n,()),(h,()))=some (V6 h n,(h,())):=by
 refine aq (hG _ _ rfl) aaJ ?_;refine aa (Wa hG h ho n) ?_;unfold V6;by_cases hi:hIn h n
 case neg=>rw[if_neg hi];exact ae (by rw[decide_eq_false hi];rfl) rfl
 rw[if_pos hi];obtain⟨k,hk,ew,ek⟩:=ho.at hi;refine af (by rw[decide_eq_true hi];rfl) (ae (show aH (c6 h).length 0 (IntKind.wrap .i64 (n-fZ h))=true by rw[ew];simp[aH];omega) ?_);have ec:cut (c6 h) 0 (IntKind.wrap .i64 (n-fZ h))=(c6 h).take (n-fZ h).toNat:=by rw[ew,ek,Yc]
 exact aa ((congrArg (fun l:List (List aY)=>FX G 20 sF ((Ed h,l,()),())) ec).trans (V9 hG (Ed h) _ ho.b (ho.r.take _) fun e he=>h8 e (adZ he))) rfl
theorem ac4(hG:HG G){m:Nat}(h:bS)(ho:tL m h)(n:Int):FX G 40 DD ((n,()),(h,()))=some (NW h n,(h,())):=by
 refine aq (hG _ _ rfl) aaK ?_;refine aa (Wa hG h ho n) ?_;unfold NW;by_cases hi:hIn h n
 case neg=>rw[if_neg hi];exact ae (by rw[decide_eq_false hi];rfl) rfl
 rw[if_pos hi];have h3:=ho.n;obtain⟨k,hk,ew,ek⟩:=ho.at hi;refine af (by rw[decide_eq_true hi];rfl) (ae (show aH (c6 h).length (IntKind.wrap .i64 (n-fZ h)) (((c6 h).length:Nat):Int)=true by rw[ew];simp[aH];omega) ?_);have ec:cut (c6 h) (IntKind.wrap .i64 (n-fZ h)) (((c6 h).length:Nat):Int)=(c6 h).drop (n-fZ h).toNat:=by rw[ew,ek,II]
 refine ae (fits ?_) ?_
 ·show 0+(cut (c6 h) (IntKind.wrap .i64 (n-fZ h)) (((c6 h).length:Nat):Int)).length≤_;rw[ec,List.length_drop];omega
 ·exact congrArg (fun l:List (List aY)=>some ((l,((0:Int),())),(h,()))) ec
theorem ac5(hG:HG G){m:Nat}(h:bS)(ho:tL m h)(h8:∀e∈c6 h,e.length≤8):FX G 41 DE ((),(h,()))=some ((o8 (c6 h) (Ed h),()),(h,())):=by refine aq (hG _ _ rfl) aaL ?_;exact aa (V9 hG (Ed h) (c6 h) ho.b ho.r h8) rfl
theorem ac6(hG:HG G){m:Nat}(h:bS)(ho:tL m h)(h8:∀e∈c6 h,e.length≤8)(n:Int):FX G 37 DC ((n,()),(h,()))=some (((pJ h n).1,()),((pJ h n).2,())):=by
 refine aq (hG _ _ rfl) aaH ?_;refine aa (Wb hG h ho h8 n) ?_;unfold V6 pJ;by_cases hi:hIn h n
 case neg=>rw[if_neg hi,if_neg hi];exact ae rfl rfl
 rw[if_pos hi,if_pos hi];have h3:=ho.n;obtain⟨k,hk,ew,ek⟩:=ho.at hi;refine af rfl (ae (show aH (c6 h).length (IntKind.wrap .i64 (n-fZ h)) (((c6 h).length:Nat):Int)=true by rw[ew];simp[aH];omega) ?_);have ec:cut (c6 h) (IntKind.wrap .i64 (n-fZ h)) (((c6 h).length:Nat):Int)=(c6 h).drop (n-fZ h).toNat:=by rw[ew,ek,II]
 refine ae (fits ?_) ?_
 ·show 0+(cut (c6 h) (IntKind.wrap .i64 (n-fZ h)) (((c6 h).length:Nat):Int)).length≤_;rw[ec,List.length_drop];omega
 ·exact congrArg (fun l:List (List aY)=>(some (((0:Int),()),((o8 ((c6 h).take (n-fZ h).toNat) (Ed h),(n,(l,()))),())):Option ((Int×Unit)×(bS×Unit)))) ec
theorem Sq{h:bS}{n:Int}{e:List aY}(he:e∈c6 (pJ h n).2):e∈c6 h:=by
 unfold pJ at he
 split at he
 ·exact adF he
 ·exact he
theorem UP{h:bS}{p e:List aY}(he:e∈c6 (qS h p).2):e∈c6 h∨e=p:=by
 unfold qS at he
 split at he
 ·exact .inl he
 split at he
 ·exact .inl he
 ·exact(adb.1 he).imp id List.mem_singleton.1
theorem UQ(hG:HG G)(w5:∀o,il G o)(l:List ((List aY)×ID))(n:Int)(hl:l.length≤1073741824)(hf:∀e∈l,∀o∈e.1,Fit o):FX G 7 uN ((l,n,()),())=some ((true,()),()):=by
 refine aq (hG _ _ rfl) acU ?_;refine aa (acT hG w5) (af rfl ?_);have loop:∀(j i:Nat) (h:bS),i+j=81→i≤80→tL i h→(∀e∈c6 h,e.length≤8) → LX G 7 uN Tryz.f7 mz (aN Tryz.prog 7 0) ((l,(n,((i:Int),()))),((h,(h,())),()))=some ((true,()),()):=by
  intro j
  induction j with
  |zero =>intro i h hi h80 ho h8;omega
  |succ j ih =>
   intro i h hi h80 ho h8;refine au UO ?_;by_cases hc:i<l.length∧i<80
   ·obtain⟨aF,h6⟩:=hc;have hm:=adr aF;have hx:=aJ (aci aF);refine ae (aX aF) (ae (decide_eq_true (show(i:Int)<80 by omega)) (af rfl ?_));have hlen:(l[i].1.take 8).length≤8:=by simp;omega
    have hfk:∀o∈l[i].1.take 8,Fit o:=fun o ho=>hf _ hm o (adZ ho);have ac7:=ac0 hG l[i].1;generalize l[i].1.take 8=p at *;have ac8:∀o∈[FL 1 (1,77)],Fit o:=fun o ho=>by rw[List.mem_singleton.1 ho];exact L4 77
    have a77:=Sn hG h ho (by omega) [FL 1 (1,77)] (by simp) ac8;have o77:=ho.add (by omega) (e:=[FL 1 (1,77)]) (by simp) ac8;have ew:=aG aF hl;have Lk:=ho.add (by omega) (e:=p) (by omega) hfk;have h82:∀e∈c6 (qS h p).2,e.length≤8:=fun e he=>by
     rcases UP he with he|rfl
     ·exact h8 e he
     ·exact hlen
    have ho3:=Lk.comp l[i].2.2;have h83:∀e∈c6 (pJ (qS h p).2 l[i].2.2).2,e.length≤8:=fun e he=>h82 e (Sq he);by_cases h9:Int.tmod (i:Int) 9=8
    case' pos =>
     refine ae (show(Int.tmod (i:Int) 9==8)=true by rw[h9];rfl) (aa (V8 hG 77) (aa a77 (aa (Cl hG _ o77) (aa (So hG w5 _ o77 _) ?_))))
    case' neg =>
     refine af (show(Int.tmod (i:Int) 9==8)=false from beq_eq_false_iff_ne.2 h9) ?_
    all_goals
     refine aa hx (aa ac7 (aa (Sn hG h ho (by omega) p (by omega) hfk) (aa hx (aa ac7 (aa (ac3 hG h ho (by omega) p (by omega) hfk) ?_)))));refine af (bne_self_eq_false _) (af (bne_self_eq_false _) (aa hx ?_));by_cases hb:(dR .and .i64 l[i].2.1 1==1)=true
     ·refine ae hb (aa hx (aa (So hG w5 _ Lk _) (aa hx (aa (ac6 hG _ Lk h82 _) ?_))));refine af (bne_self_eq_false _) (af (bne_self_eq_false _) (aa (Cl hG _ ho3) (aa (L5 hG _ ho3) (af (bne_self_eq_false _) ?_))));rw[wI,ew];exact ih (i+1) _ (by omega) (by omega) ho3 h83
     ·refine af (Bool.eq_false_iff.2 hb) (af (bne_self_eq_false _) (aa (Cl hG _ Lk) (aa (L5 hG _ Lk) (af (bne_self_eq_false _) ?_))));rw[wI,ew];exact ih (i+1) _ (by omega) (by omega) Lk h82
   have hs:fb (V6 h n).1:=by
    unfold V6;split
    ·exact fb.all _ ho.b
    ·exact fb.zero
   have JE:=fb.all (c6 h) ho.b;have WD:=hs.n;have Y5:=JE.n;have hr:kH (NW h n).1:=by
    unfold NW;split
    ·exact ho.r.drop _
    ·exact⟨adD _,fun e he=>(by cases he),fun e he=>(by cases he)⟩
   by_cases aF:i<l.length
   case' pos=>refine ae (aX aF) (af (decide_eq_false (show ¬(i:Int)<80 by omega)) ?_)
   case' neg=>refine af (decide_eq_false (show ¬((i:Int)<((l.length:Nat):Int)) by omega)) ?_
   all_goals
    refine aa (V7 hG w5 h ho n) (aa (Wb hG h ho h8 n) (aa (ac2 hG h ho (fun e he=>by have:=h8 e he;omega) n) (aa (ac4 hG h ho n) ?_)));refine aa (abq hG _ _ hs.d.sm (adk WD (by decide))) (aa (acZ hG _ hr) (aa (ac1 hG w5 h ho) (aa (ac5 hG h ho h8) (aa (abq hG _ _ JE.d.sm (adk Y5 (by decide))) ?_))));refine ae (decide_eq_true rfl) (ae (BEq.rfl) (ae rfl (ae BEq.rfl ?_)));exact congrArg (fun b:Bool=>some ((b,()),())) (decide_eq_true rfl)
 exact loop 81 0 _ (by omega) (by omega) tL.zero fun e he=>by cases he
theorem IJ{l:List ((List aY)×ID)}{m:Nat}(hb:eP (.sl SD) l≤m):l.length≤m∧∀e∈l,∀o∈e.1,o.2.2.2.2.2.2.2.1.size≤m:=by
 have h1:eP (.sl SD) l=(l.map fun e=>(e.1.map (eP qx)).sum+1+2).sum+1:=rfl;rw[h1]at hb;refine⟨?_,fun e he o ho=>?_⟩
 ·have:=Lt (fun e:(List aY)×ID=>(e.1.map (eP qx)).sum+1+2) (fun _=>by omega) l;omega
 ·have h2:=E8 (fun e:(List aY)×ID=>(e.1.map (eP qx)).sum+1+2) he;have h3:=E8 (eP qx) ho;have h4:=Nd o;omega
theorem Yd(l:List ((List aY)×ID))(n:Int)(hw:Lr (.sl SD) l)(hn:Lr (.int .i64) n)(hb:eP (.sl SD) l+eP (.int .i64) n≤1048576):FX GP 7 uN ((l,n,()),())=some ((true,()),()):=by obtain⟨h1,h2⟩:=IJ (l:=l) (m:=1048576) (by omega);have htx:∀e∈l,∀o∈e.1,tB o:=fun e he o ho=>adk (h2 e he o ho) (by omega);exact UQ hgP acR l n (by omega) (fun e he o ho=>X8 ((hw e he).1 o ho) (htx e he o ho))
end Go.Vs
