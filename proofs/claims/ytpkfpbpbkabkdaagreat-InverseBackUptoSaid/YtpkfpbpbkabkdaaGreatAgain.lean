/- What takes operations back -/
import Derived.Test.YtpkfpbpbkabkdaaGreatBack
set_option linter.unusedVariables false
set_option linter.unusedSimpArgs false
namespace Go.Vs
open Go.Proofs Go.Cy
theorem JM{f:ae→ae}{n z:ae}{P:List ae}(h:Path f (n::P) z)(hP:P≠[]):∃p P',P=p::P'∧f n=p:=by
 cases P with
 |nil=>exact absurd rfl hP
 |cons p P'=>exact⟨p,P',rfl,h.1⟩
theorem Xg{d:ak}(h:Wf d){z:ae}(hz:z∈aq d.1):∃r c,c∈b5 d∧jv (ph d) (z::r)∧(z::r).Perm c∧(z::r).Nodup:=by have a:=bK h;obtain⟨c,hc,hzc⟩:=ac8.1 (a.p.mem_iff.2 hz);obtain⟨r,h1,h2⟩:=(a.c c hc).head hzc;refine⟨r,c,hc,h1,h2,h2.nodup_iff.2 ?_⟩;have:=a.p.nodup_iff.2 h.rw.n;obtain⟨p,q,w5⟩:=ac6 hc;rw[w5]at this;exact(ac2.1 ((gx p q c).nodup_iff.1 this)).1
theorem Zz{t:ak}{e:ID}{x y:ae}(h:cf t e)(hx:x∈aq (cg t e).1)(hy:y∈aq (cg t e).1)(SF:x≠y)(sx:sg t x=(e,0))(sy:sg t y=(e,1)) :
  Ju t (e,0) (e,1)↔ah y∉bw (cg t e) (ah x):=by
 obtain⟨X,hX⟩:∃X,X=ah x:=⟨_,rfl⟩;obtain⟨Y,hY⟩:∃Y,Y=ah y:=⟨_,rfl⟩;have hXd:X∈aq (cg t e).1:=hX▸h.w.other hx;have hYd:Y∈aq (cg t e).1:=hY▸h.w.other hy;have hXt:=h.sub hXd;have hYt:=h.sub hYd;have nd:=h.p.nodup_iff.1 h.wf.rw.n;have n0t:=h.x0;have n1t:=h.x1;have acL:∀z∈aq (cg t e).1,z≠(e,0):=fun z hz q=>(abv.1 nd).1 (q▸aa6 _ hz);have acM:∀z∈aq (cg t e).1,z≠(e,1):=fun z hz q=>(abv.1 (abv.1 nd).2).1 (q▸hz);have pX:ph t X=(e,0):=by rw[iO hXt,hX,bS (h.w.side hx)];exact sx
 have pY:ph t Y=(e,1):=by rw[iO hYt,hY,bS (h.w.side hy)];exact sy
 have in0:∀z∈aq t.1,ph t z=(e,0)→z=X:=fun z hz q=>N6 h.wf hz hXt (q.trans pX.symm);have in1:∀z∈aq t.1,ph t z=(e,1)→z=Y:=fun z hz q=>N6 h.wf hz hYt (q.trans pY.symm);have ne0:ph t (e,0)≠(e,0):=fun q=>acL X hXd (in0 _ n0t q).symm;have ne1:ph t (e,1)≠(e,1):=fun q=>acM Y hYd (in1 _ n1t q).symm;have n01:=YS e;have dX:ph (cg t e) X=ph t (e,1):=by rw[h.ph hXd];unfold tK;rw[if_pos pX,if_neg ne1]
 have dY:ph (cg t e) Y=ph t (e,0):=by rw[h.ph hYd];unfold tK;rw[if_neg (by rw[pY];exact fun q=>n01 q.symm),if_pos pY,if_neg ne0]
 have dz:∀z∈aq (cg t e).1,ph t z≠(e,0)→ph t z≠(e,1)→ph (cg t e) z=ph t z:=fun z hz q1 q2=>by rw[h.ph hz];unfold tK;rw[if_neg q1,if_neg q2]
 have ind:∀z∈aq t.1,z≠(e,0)→z≠(e,1)→z∈aq (cg t e).1:=fun z hz q1 q2=>by
  rcases abi.1 (h.p.mem_iff.1 hz) with k|k
  ·exact absurd k q1
  ·exact(abi.1 k).resolve_left q2
 have a:=bK h.wf;have inT:∀c∈b5 t,∀z∈c,z∈aq t.1:=fun c hc z hz=>a.p.mem_iff.1 (ac8.2 ⟨c,hc,hz⟩);obtain⟨r0,htr,Ck,bI,hcy⟩:=wT h.w hXd;rw[←hX,←hY];obtain⟨P0,c0,SQ,cy0,pm0,nd0⟩:=Xg h.wf n0t;constructor
 ·rintro⟨c,hc,k0,k1⟩ oz;have hcc:(e,1)∈(e,0)::P0:=(a.c c hc).same cy0 k0 abo k1;have hP:(e,1)∈P0:=(abi.1 hcc).resolve_left fun q=>n01 q.symm;obtain⟨P,Q,hPQ⟩:=ac6 hP;subst hPQ;obtain⟨w1,w2⟩:=(jv.two (x:=(e,0)) (a:=P) (y:=(e,1)) (b:=Q)).1 cy0;have all:∀z∈(e,0)::(P++(e,1)::Q),z∈aq t.1:=fun z hz=>inT c0 SQ z (pm0.mem_iff.1 hz);have acN:P≠[]:=fun q=>by subst q;have:ph t (e,0)=(e,1):=w1.1;exact acL Y hYd (in1 _ n0t this).symm
  obtain⟨p,P',rfl,hp⟩:=JM w1 acN;have wP:Path (ph t) (p::P') (e,1):=w1.2;have ndP:=(abv.1 nd0).2;have aht:=(ac2.1 ndP);have Xh:∀z∈p::P',z∈aq (cg t e).1:=fun z hz=>ind z (all z (by simp at hz ⊢;rcases hz with k|k<;>simp[k])) (fun q=>(abv.1 nd0).1 (q▸abn _ hz)) (fun q=>aht.2.2 z hz (e,1) abo q);obtain⟨lx,hlx,acO⟩:=nh w2 (by simp);have hlX:lx=X:=in0 lx (all lx (aa6 _ (abj _ hlx))) acO;have hXP:X∉p::P':=fun q=>aht.2.2 X q lx hlx (by rw[hlX]);obtain⟨ly,hly,acP⟩:=nh wP (by simp);have hlY:ly=Y:=in1 ly (h.sub (Xh ly hly)) acP;have cyP:jv (ph (cg t e)) (p::P'):=by
   refine Path.iA (f:=ph t) (z:=(e,1)) wP (fun q=>?_) (fun u hu q=>dz u (Xh u hu) (fun q2=>hXP ((in0 u (h.sub (Xh u hu)) q2)▸hu)) q) (fun u hu q=>?_)
   ·exact acM _ (Xh _ (ad1 q)) rfl
   ·rw[in1 u (h.sub (Xh u hu)) q,dY,hp]
  have hYP:Y∈p::P':=hlY▸hly;rw[htr]at oz;exact hXP (hcy.same cyP oz hYP abo)
 ·intro oz;refine Classical.byContradiction fun ho=>oz ?_;have ox:(e,1)∉(e,0)::P0:=fun q=>ho ⟨c0,SQ,pm0.mem_iff.1 abo,pm0.mem_iff.1 q⟩;obtain⟨Q0,c1,Xr,cy1,pm1,nd1⟩:=Xg h.wf n1t;have N3:(e,0)∉(e,1)::Q0:=fun q=>ho ⟨c1,Xr,pm1.mem_iff.1 q,pm1.mem_iff.1 abo⟩;have w1:Path (ph t) ((e,0)::P0) (e,0):=cy0;have w2:Path (ph t) ((e,1)::Q0) (e,1):=cy1;have acN:P0≠[]:=fun q=>by subst q;exact ne0 w1.1
  have anr:Q0≠[]:=fun q=>by subst q;exact ne1 w2.1
  obtain⟨p,P,rfl,hp⟩:=JM w1 acN;obtain⟨q,Q,rfl,hq⟩:=JM w2 anr;have wP:Path (ph t) (p::P) (e,0):=w1.2;have wQ:Path (ph t) (q::Q) (e,1):=w2.2;have tP:∀z∈p::P,z∈aq t.1:=fun z hz=>inT c0 SQ z (pm0.mem_iff.1 (aa6 _ hz));have tQ:∀z∈q::Q,z∈aq t.1:=fun z hz=>inT c1 Xr z (pm1.mem_iff.1 (aa6 _ hz));have dP:∀z∈p::P,z∈aq (cg t e).1:=fun z hz=>ind z (tP z hz) (fun k=>(abv.1 nd0).1 (k▸hz)) (fun k=>ox (k▸aa6 _ hz));have dQ:∀z∈q::Q,z∈aq (cg t e).1:=fun z hz=>ind z (tQ z hz) (fun k=>N3 (k▸aa6 _ hz)) (fun k=>(abv.1 nd1).1 (k▸hz));obtain⟨lx,hlx,acO⟩:=nh wP (by simp);have hlX:lx=X:=in0 lx (tP lx hlx) acO;obtain⟨ly,hly,acP⟩:=nh wQ (by simp);have hlY:ly=Y:=in1 ly (tQ ly hly) acP;have vP:Path (ph (cg t e)) (p::P) q:=by
   refine Path.iA (f:=ph t) (z:=(e,0)) wP (fun k=>acL _ (dP _ (ad1 k)) rfl) (fun u hu k=>dz u (dP u hu) k fun k2=>?_) (fun u hu k=>?_)
   ·have:=cy0.step (aa6 _ hu);rw[k2]at this;exact ox this
   ·rw[in0 u (tP u hu) k,dX,hq]
  have vQ:Path (ph (cg t e)) (q::Q) p:=by
   refine Path.iA (f:=ph t) (z:=(e,1)) wQ (fun k=>acM _ (dQ _ (ad1 k)) rfl) (fun u hu k=>dz u (dQ u hu) (fun k2=>?_) k) (fun u hu k=>?_)
   ·have:=cy1.step (aa6 _ hu);rw[k2]at this;exact N3 this
   ·rw[in1 u (tQ u hu) k,dY,hp]
  have cyc:jv (ph (cg t e)) ((p::P)++(q::Q)):=jv.two.2 ⟨vP,vQ⟩;rw[htr];exact cyc.same hcy (abn _ (hlX▸hlx)) abo (abj _ (hlY▸hly))
theorem tT{L:List ae}(hn:L.Nodup)(p:ae→Bool):bB ((bB L).filter p)=bB (L.filter p):=by
 obtain⟨j,hj,he⟩:=mb L;rw[he];unfold kD;rw[List.filter_append];have e:L.filter p=(L.take j).filter p++(L.drop j).filter p:=by rw[←List.filter_append,List.take_append_drop]
 have nd:(L.filter p).Nodup:=hn.filter _;have k:=oi (row:=L.filter p) nd (j:=((L.take j).filter p).length) (by rw[e];simp);rw[←k];congr 1;unfold kD;rw[e,List.drop_left,List.take_left]
theorem ZA{row A B:List ae}{x q:ae}(hn:row.Nodup)(e:row=A++x::B)(hq:q∉row):gN row x q=bB (A++x::q::B):=by
 have hi:idx x row 0=((A.length:Nat):Int):=yz hn (by rw[e];simp);have hm:(max 0 ((A.length:Nat):Int)).toNat+1=A.length+1:=by omega
 unfold gN;rw[if_neg hq,hi,hm];congr 1;have e2:row=(A++[x])++B:=by rw[e];simp
 have hl:A.length+1=(A++[x]).length:=by simp
 rw[e2,hl,List.take_left,List.drop_left];simp
theorem Qm(u:ID)(a b:List ae)(v:ai):iM u a (iM u b v)=iM u a v:=by
 unfold iM;by_cases h:v.1=u
 ·rw[if_pos h,if_pos h,if_pos h]
 ·rw[if_neg h,if_neg h]
theorem HX{r:List ae}(hn:r.Nodup)(p q:ae):bz (bz r p) q=bz (bz r q) p:=by unfold bz;rw[tT (hn.filter _),tT (hn.filter _),List.filter_filter,List.filter_filter];congr 1;apply List.filter_congr;intro z _;rw[Bool.and_comm]
theorem qO{r:List ae}{p z:ae}:z∈bz r p↔z∈r∧z≠p:=by unfold bz;rw[kl,List.mem_filter];simp
theorem rR{u:ID}{l:List ae}{v:ai}(h:v.1=u):iM u l v=(v.1,(l,v.2.2)):=if_pos h
theorem mi{u:ID}{l:List ae}{v:ai}(h:¬v.1=u):iM u l v=v:=if_neg h
theorem yR{D:ak}(h:Rw D.1){p q:ae}(hp:p∈aq D.1)(hq:q∈aq D.1)(w5:p≠q):av (av D p) q=av (av D q) p:=by
 obtain⟨u,hu,hpu⟩:=aM.1 hp;obtain⟨w,hw,SJ⟩:=aM.1 hq;obtain⟨_,r1⟩:=cZ h hp;obtain⟨_,r2⟩:=cZ h hq;have e1:=c9 h hu hpu;have e2:=c9 h hw SJ;by_cases k:w.1=u.1
 ·have:=vI h.s hu hw k;subst this;have m1:(w.1,(bz w.2.1 p,w.2.2))∈(av D p).1:=by rw[e1];exact ace.2 ⟨w,hw,by unfold iM;rw[if_pos rfl]⟩
  have m2:(w.1,(bz w.2.1 q,w.2.2))∈(av D q).1:=by rw[e2];exact ace.2 ⟨w,hw,by unfold iM;rw[if_pos rfl]⟩
  rw[c9 r1 m1 (qO.2 ⟨SJ,fun k=>w5 k.symm⟩),c9 r2 m2 (qO.2 ⟨hpu,w5⟩),e1,e2];unfold b8;have c:∀a b c':List ae,(D.1.map (iM w.1 a)).map (iM w.1 b)=D.1.map (iM w.1 b):=fun a b _=>by rw[List.map_map];exact acY fun v _=>Qm w.1 b a v
  show(((D.1.map (iM w.1 (bz w.2.1 p))).map (iM w.1 (bz (bz w.2.1 p) q)),D.2):ak)=((D.1.map (iM w.1 (bz w.2.1 q))).map (iM w.1 (bz (bz w.2.1 q) p)),D.2);rw[c _ _ [],c _ _ [],HX (h.ring hw)]
 ·have m1:w∈(av D p).1:=by rw[e1];exact ace.2 ⟨w,hw,by unfold iM;rw[if_neg k]⟩
  have m2:u∈(av D q).1:=by rw[e2];exact ace.2 ⟨u,hu,by unfold iM;rw[if_neg (fun e=>k e.symm)]⟩
  rw[c9 r1 m1 SJ,c9 r2 m2 hpu,e1,e2];unfold b8;show(((D.1.map (iM u.1 _)).map (iM w.1 _),D.2):ak)=((D.1.map (iM w.1 _)).map (iM u.1 _),D.2);have:(D.1.map (iM u.1 (bz u.2.1 p))).map (iM w.1 (bz w.2.1 q))=(D.1.map (iM w.1 (bz w.2.1 q))).map (iM u.1 (bz u.2.1 p)):=by
   rw[List.map_map,List.map_map];refine acY fun v _=>?_;show iM w.1 _ (iM u.1 _ v)=iM u.1 _ (iM w.1 _ v);by_cases a:v.1=u.1
   ·have b:¬v.1=w.1:=fun b=>k (b.symm.trans a);rw[rR a,mi (show ¬(v.1,(bz u.2.1 p,v.2.2)).1=w.1 from b),mi b,rR a]
   ·by_cases b:v.1=w.1
    ·rw[mi a,rR b,mi (show ¬(v.1,(bz w.2.1 q,v.2.2)).1=u.1 from a)]
    ·rw[mi a,mi b,mi a]
  rw[this]
structure Lk(d t:ak)(e:ID)(v w:ai)(x y:ae):Prop where
 c:cf t e
 b:cg t e=d
 sx:sg t x=(e,0)
 sy:sg t y=(e,1)
theorem Qn{t:ak}(h:Wf t){x:ae}(hx:x∈aq t.1):bJ t (sg t x)=bJ t x:=by obtain⟨v,hv,j4⟩:=aM.1 hx;rw[jn h.rw hv j4];exact(dp h.rw hv (jT (h.rw.ring hv) j4)).trans (dp h.rw hv j4).symm
variable {d t:ak} {e:ID} {v w:ai} {x y:ae}
theorem Lk.ends(k:Lk d t e v w x y)(h:Wf d)(hv:v∈d.1)(hw:w∈d.1)(hx:x∈v.2.1)(hy:y∈w.2.1):bJ t (e,0)=some v.1∧bJ t (e,1)=some w.1:=by
 have hxd:x∈aq (cg t e).1:=by rw[k.b];exact aM.2 ⟨v,hv,hx⟩
 have SV:y∈aq (cg t e).1:=by rw[k.b];exact aM.2 ⟨w,hw,hy⟩
 have h1:=Qn k.c.wf (k.c.sub hxd);have h2:=Qn k.c.wf (k.c.sub SV);rw[k.sx,←k.c.at hxd,k.b]at h1;rw[k.sy,←k.c.at SV,k.b]at h2;exact⟨h1.trans (dp h.rw hv hx),h2.trans (dp h.rw hw hy)⟩
theorem Lk.ao3(k:Lk d t e v w x y)(h:Wf d)(hg:bY d=0)(hv:v∈d.1)(hw:w∈d.1)(hx:x∈v.2.1)(hy:y∈w.2.1)(SF:x≠y):bY t=0↔(ah y∈bw d (ah x)∨¬cI d v.1 w.1):=by
 obtain⟨e1,e2⟩:=k.ends h hv hw hx hy;have hxd:x∈aq (cg t e).1:=by rw[k.b];exact aM.2 ⟨v,hv,hx⟩
 have SV:y∈aq (cg t e).1:=by rw[k.b];exact aM.2 ⟨w,hw,hy⟩
 have hf:=Zz k.c hxd SV SF k.sx k.sy;rw[k.b]at hf;obtain⟨R,hr⟩:=qK k.c.wf;have z:=fD k.c.wf hr;have lv:(cg t e).1.length=t.1.length:=by have:=congrArg List.length k.c.ids;simpa using this
 have le:(cg t e).2.length+1=t.2.length:=by have h1:=lk k.c.wf;have h2:=lk k.c.w;have h3:=k.c.p.length_eq;simp at h3;omega
 by_cases ho:Ju t (e,0) (e,1)
 ·have f1:=(k.c.same ho).1;have sr:=hf.1 ho;by_cases hc:cI (cg t e) v.1 w.1
  ·have DK:=k.c.B7 e1 e2 hc hr;have z2:=fD k.c.w DK;rw[k.b]at z2 hc f1 lv le;have:=z2.1 hg;constructor
   ·intro q;have:=z.1 q;omega
   ·rintro(q|q)
    ·exact absurd q sr
    ·exact absurd hc q
  ·obtain⟨R2,DK,hl⟩:=k.c.PS e1 e2 hc hr;have z2:=fD k.c.w DK;rw[k.b]at z2 hc f1 lv le;have:=z2.1 hg;exact⟨fun _=>.inr hc,fun _=>z.2 (by omega)⟩
 ·have f1:=k.c.diff ho;have hc:=k.c.Az e1 e2 ho;have DK:=k.c.B7 e1 e2 hc hr;have z2:=fD k.c.w DK;rw[k.b]at z2 f1 lv le;have:=z2.1 hg;have oz:ah y∈bw d (ah x):=Classical.byContradiction fun q=>ho (hf.2 q);exact⟨fun _=>.inl oz,fun _=>z.2 (by omega)⟩
end Go.Vs
namespace Go.Vs
open Go.Proofs
theorem wY{v w:ai}:∀{l:List ai},cd l→w∈l→w.1=v.1→cr v (bE l v.1)=l.map fun z=>if z.1=v.1 then v else z
 |[],_,h,_=>by cases h
 |z::r,hs,hw,he=>by
  have aH:=fun y (hy:y∈r)=>acV hs hy;by_cases hz:z.1=v.1
  ·have hn:∀y∈r,y.1≠v.1:=fun y hy k=>by have:=aH y hy;rw[hz,k,ct]at this;cases this
   have e1:bE (z::r) v.1=r:=by unfold bE;rw[List.filter_cons_of_neg (by simpa using hz)];exact adu.2 fun y hy=>by simpa using hn y hy
   have e2:r.map (fun z=>if z.1=v.1 then v else z)=r:=by
    conv=>rhs;rw[←List.map_id r]
    exact acY fun y hy=>if_neg (hn y hy)
   rw[e1,List.map_cons,if_pos hz,e2]
   cases r with
   |nil=>rfl
   |cons y r =>have:=aH y (abo ..);rw[hz]at this;unfold cr;rw[if_pos this]
  ·have mT:w∈r:=(abi.1 hw).resolve_left fun k=>hz (by rw[←k];exact he);have h1:=aH w mT;rw[he]at h1;have e1:bE (z::r) v.1=z::bE r v.1:=by unfold bE;rw[List.filter_cons_of_pos (by simpa using hz)]
   rw[e1,List.map_cons,if_neg hz];have:=wY hs.of_cons mT he;rw[←this,cr,if_neg (by rw[jR h1];simp)]
theorem wZ{v w:an}:∀{l:List an},dw l→w∈l→w.1=v.1→bR v (bF l v.1)=l.map fun z=>if z.1=v.1 then v else z
 |[],_,h,_=>by cases h
 |z::r,hs,hw,he=>by
  have aH:=fun y (hy:y∈r)=>acV hs hy;by_cases hz:z.1=v.1
  ·have hn:∀y∈r,y.1≠v.1:=fun y hy k=>by have:=aH y hy;rw[hz,k,ct]at this;cases this
   have e1:bF (z::r) v.1=r:=by unfold bF;rw[List.filter_cons_of_neg (by simpa using hz)];exact adu.2 fun y hy=>by simpa using hn y hy
   have e2:r.map (fun z=>if z.1=v.1 then v else z)=r:=by
    conv=>rhs;rw[←List.map_id r]
    exact acY fun y hy=>if_neg (hn y hy)
   rw[e1,List.map_cons,if_pos hz,e2]
   cases r with
   |nil=>rfl
   |cons y r =>have:=aH y (abo ..);rw[hz]at this;unfold bR;rw[if_pos this]
  ·have mT:w∈r:=(abi.1 hw).resolve_left fun k=>hz (by rw[←k];exact he);have h1:=aH w mT;rw[he]at h1;have e1:bF (z::r) v.1=z::bF r v.1:=by unfold bF;rw[List.filter_cons_of_pos (by simpa using hz)]
   rw[e1,List.map_cons,if_neg hz];have:=wZ hs.of_cons mT he;rw[←this,bR,if_neg (by rw[jR h1];simp)]
theorem FF(v:an){l:List an}(h:aL l v.1=none):aL (bR v l) v.1=some v:=by
 have hm:v∈bR v l:=ku.2 (.inl rfl);have hs:(aL (bR v l) v.1).isSome=true:=by unfold aL;rw[List.find?_isSome];exact⟨v,hm,by simp⟩
 obtain⟨w,hw⟩:=ab3.1 hs;rcases ku.1 (kZ hw) with k|k
 ·rw[hw,k]
 ·have:=jm hw;unfold aL at h;exact absurd (List.find?_eq_none.1 h w k) (by simpa using this)
theorem FG(l:List ai)(x:ID):aN (bE l x) x=none:=by unfold aN bE;rw[List.find?_eq_none];intro y hy;have:=(ada.1 hy).2;simpa using this
theorem FH(l:List an)(x:ID):aL (bF l x) x=none:=by unfold aL bF;rw[List.find?_eq_none];intro y hy;have:=(ada.1 hy).2;simpa using this
theorem MD{l:List ai}{v:ai}(h:v∈l):(bE l v.1).length<l.length:=by unfold bE;rw[List.length_filter_lt_length_iff_exists];exact⟨v,h,by simp⟩
theorem ME{l:List an}{v:an}(h:v∈l):(bF l v.1).length<l.length:=by unfold bF;rw[List.length_filter_lt_length_iff_exists];exact⟨v,h,by simp⟩
theorem Sr{row:List ae}{q:ae}(hn:row.Nodup)(ht:bB row=row)(hq:q∉row)(z:ae):bz (gN row z q) q=row:=by unfold gN;rw[if_neg hq];generalize (max 0 (idx z row 0)).toNat+1=k;have ndL:(row.take k++q::row.drop k).Nodup:=adf.nodup_iff.2 (by rw[List.take_append_drop];exact abv.2 ⟨hq,hn⟩);unfold bz;rw[tT ndL];have fA:(row.take k).filter (fun z=>decide (z≠q))=row.take k:=adu.2 fun w hw=>decide_eq_true fun e:w=q=>hq (e▸adB hw);have fB:(row.drop k).filter (fun z=>decide (z≠q))=row.drop k:=adu.2 fun w hw=>decide_eq_true fun e:w=q=>hq (e▸adn hw);rw[List.filter_append,fA,List.filter_cons_of_neg (by simp),fB,List.take_append_drop,ht]
def AQ(y x z:ae):List ae:=if z=y then[y,x] else[z]
theorem FI{y x:ae}{l:List ae}(h:y∉l):l.flatMap (AQ y x)=l:=by
 have:l.flatMap (AQ y x)=l.flatMap fun z=>[z]:=by unfold List.flatMap;congr 1;exact acY fun z hz=>if_neg fun e:z=y=>h (e▸hz)
 rw[this,List.flatMap_singleton']
theorem Xi{row:List ae}{y x:ae}(hn:row.Nodup)(hy:y∈row)(hx:x∉row):gN row y x=bB (row.flatMap (AQ y x)):=by obtain⟨P,Q,e⟩:=ac6 hy;rw[ZA hn e hx];rw[e]at hn;obtain⟨n1,n2,n3⟩:=ac2.1 hn;have yP:y∉P:=fun k=>n3 y k y (abo ..) rfl;have yQ:y∉Q:=(abv.1 n2).1;rw[e,List.flatMap_append,List.flatMap_cons,FI yP,FI yQ];unfold AQ;rw[if_pos rfl];rfl
theorem ZB(row:List ae)(k:Nat)(y x:ae):∃j,j≤(row.flatMap (AQ y x)).length∧(kD row k).flatMap (AQ y x)=kD (row.flatMap (AQ y x)) j:=by
 refine⟨((row.take k).flatMap (AQ y x)).length,?_,?_⟩
 ·conv=>rhs;rw[←List.take_append_drop k row]
  rw[List.flatMap_append,List.length_append];omega
 ·unfold kD;rw[List.flatMap_append];have e:row.flatMap (AQ y x)=(row.take k).flatMap (AQ y x)++(row.drop k).flatMap (AQ y x):=by rw[←List.flatMap_append,List.take_append_drop]
  rw[e,List.drop_left,List.take_left]
theorem Ss{row:List ae}{x:ae}(hn:row.Nodup)(ht:bB row=row)(hx:x∈row):gN (bz row x) (if cC row x=x then zD else cC row x) x=row:=by
 obtain⟨A,B,e⟩:=ac6 hx;have hi:idx x row 0=((A.length:Nat):Int):=yz hn (by rw[e];simp);have nd:=hn;rw[e]at nd;obtain⟨n1,n2,n3⟩:=ac2.1 nd;have xA:x∉A:=fun k=>n3 x k x (abo ..) rfl;have xB:x∉B:=(abv.1 n2).1;have ahw:(A++B).Nodup:=by have:=adf.nodup_iff.1 nd;exact(abv.1 this).2
 have r1:bz row x=bB (A++B):=by
  unfold bz;rw[e,List.filter_append,List.filter_cons_of_neg (by simp)];congr 2
  ·exact adu.2 fun w hw=>decide_eq_true fun k:w=x=>xA (k▸hw)
  ·exact adu.2 fun w hw=>decide_eq_true fun k:w=x=>xB (k▸hw)
 have hlen:row.length=A.length+1+B.length:=by rw[e];simp;omega
 have hp:cC row x=(row[(A.length+(row.length-1))%row.length]?).getD zD:=by unfold cC cU;rw[if_pos hx,hi,Int.toNat_natCast]
 have r2:bB (A++B)=bB (B++A):=by
  have:kD (A++B) A.length=B++A:=by unfold kD;rw[List.drop_left,List.take_left]
  rw[←this];exact(oi ahw (by simp)).symm
 have r3:bB row=bB (x::(B++A)):=by
  have:kD row A.length=x::(B++A):=by unfold kD;rw[e,List.drop_left,List.take_left];rfl
  rw[←this];exact(oi hn (by omega)).symm
 have main:∀C' y,B++A=C'++[y]→cC row x=y→gN (bz row x) (if cC row x=x then zD else cC row x) x=row:=fun C' y hC hy=>by
  have ndC:(C'++[y]).Nodup:=by rw[←hC];exact adg.nodup_iff.1 ahw
  have xC:x∉C'++[y]:=by rw[←hC];simp[xA,xB]
  have bq:¬y=x:=fun k=>xC (by simp[k]);have yC:y∉C':=fun k=>(ac2.1 ndC).2.2 y k y (by simp) rfl;rw[hy,if_neg bq,r1,r2,hC];have ndT:(bB (C'++[y])).Nodup:=(fw _).nodup_iff.2 ndC;rw[Xi ndT (kl.2 (by simp)) (fun k=>xC (kl.1 k))];obtain⟨j,hj,yK⟩:=mb (C'++[y]);rw[yK];obtain⟨j2,hj2,ahx⟩:=ZB (C'++[y]) j y x;have e5:(C'++[y]).flatMap (AQ y x)=kD (x::(C'++[y])) 1:=by rw[List.flatMap_append,FI yC];unfold kD AQ;simp
  have ndX:(x::(C'++[y])).Nodup:=abv.2 ⟨xC,ndC⟩;have ndR:(kD (x::(C'++[y])) 1).Nodup:=by
   have:(kD (x::(C'++[y])) 1).Perm (x::(C'++[y])):=by unfold kD;exact adg.trans (List.Perm.of_eq (List.take_append_drop 1 (x::(C'++[y]))))
   exact this.nodup_iff.2 ndX
  rw[e5]at ahx hj2;rw[ahx,oi ndR hj2,oi ndX (by simp),←hC,←r3,ht]
 rcases List.eq_nil_or_concat A with hA|⟨A',y,hA⟩
 ·rcases List.eq_nil_or_concat B with hB|⟨B',y,hB⟩
  ·subst hA;subst hB;have e':row=[x]:=e;have:cC row x=x:=by rw[hp,e'];rfl
   rw[if_pos this,r1];subst e';have e2:bB ([]++[]:List ae)=[]:=by have:=(fw ([]:List ae));exact List.Perm.eq_nil this
   rw[e2];unfold gN;rw[if_neg (by simp)];simpa using ht
  ·subst hA;subst hB;refine main B' y (by simp) ?_;rw[hp,e];have l:([]++x::(B'.concat y):List ae).length=B'.length+2:=by simp
   rw[l];have m:(([]:List ae).length+(B'.length+2-1))%(B'.length+2)=B'.length+1:=by rw[List.length_nil,Nat.zero_add];exact adY (by omega)
   rw[m];simp
 ·subst hA;refine main (B++A') y (by simp) ?_;rw[hp,hlen];have m:((A'.concat y).length+((A'.concat y).length+1+B.length-1))%((A'.concat y).length+1+B.length)=A'.length:=by
   have l:(A'.concat y).length=A'.length+1:=by simp
   rw[l];have:A'.length+1+(A'.length+1+1+B.length-1)=A'.length+(A'.length+1+1+B.length):=by omega
   rw[this,Nat.add_mod_right];exact adY (by omega)
  rw[m,e];simp
theorem JN{l:List ai}(hs:cd l){u:ai}(hu:u∈l)(a:List ae):(l.map (iM u.1 a)).map (iM u.1 u.2.1)=l:=E7 fun w hw=>by
 rw[Qm];unfold iM;by_cases k:w.1=u.1
 ·rw[if_pos k,vI hs hu hw k]
 ·rw[if_neg k]
theorem BL{D:ak}(h:Rw D.1){c:ml}{q:ae}{v:ai}(hv:aN D.1 c.1=some v)(ht:bB v.2.1=v.2.1)(hq:q∉aq D.1):av (br D c q) q=D:=by
 have hm:=dr hv;have bQ:=gj hv;have hqv:q∉v.2.1:=fun k=>hq (aM.2 ⟨v,hm,k⟩);obtain⟨p1,q1⟩:=lD (c:=c) (x:=q) h hv hq;have e:br D c q=b8 D v.1 (gN v.2.1 c.2 q):=by unfold br;rw[←bQ,gk h.s hm]
 have Vo:(v.1,(gN v.2.1 c.2 q,v.2.2))∈(br D c q).1:=by rw[e];exact ace.2 ⟨v,hm,rR rfl⟩
 have oz:q∈gN v.2.1 c.2 q:=(Hr c.2 hqv).mem_iff.2 (abo ..);rw[c9 q1 Vo oz,e];show b8 (b8 D v.1 (gN v.2.1 c.2 q)) v.1 (bz (gN v.2.1 c.2 q) q)=D;rw[Sr (h.ring hm) ht hqv];exact congrArg (fun l:List ai=>((l,D.2):ak)) (JN h.s hm _)
theorem BM{D:ak}(h:Rw D.1){x:ae}{v:ai}(hv:v∈D.1)(hx:x∈v.2.1)(ht:bB v.2.1=v.2.1)(E:List an) :
  (br ((av D x).1,E) (v.1,if cC v.2.1 x=x then zD else cC v.2.1 x) x).1=D.1:=by
 obtain⟨p1,q1⟩:=cZ h (aM.2 ⟨v,hv,hx⟩);have e:=c9 h hv hx;have Vo:(v.1,(bz v.2.1 x,v.2.2))∈(av D x).1:=by rw[e];exact ace.2 ⟨v,hv,rR rfl⟩
 have hr:aV ((av D x).1,E) v.1=bz v.2.1 x:=gk (d:=((av D x).1,E)) q1.s Vo;unfold br;show((av D x).1).map (iM v.1 (gN (aV ((av D x).1,E) v.1) _ x))=D.1;rw[hr,Ss (h.ring hv) ht hx,e];exact JN h.s hv _
theorem yS{l:List ai}(h:Rw l){m y:ae}(hm:m∈aq l)(hy:y∉aq l)(ht:∀v∈l,bB v.2.1=v.2.1)(E F:List an):(az ((az (l,E) m y).1,F) y m).1=l:=by
 obtain⟨p1,q1⟩:=iI (d:=(l,E)) h hm hy;obtain⟨u,hu,SC⟩:=aM.1 hm;have hyu:y∉u.2.1:=fun c=>hy (aM.2 ⟨u,hu,c⟩);have es:=la (d:=(l,E)) h y hu SC;have anv:y∈dJ u.2.1 m y:=by
  rcases abi.1 ((EW SC hyu).mem_iff.1 (abo ..)) with c|c
  ·exact absurd (c▸SC) hyu
  ·exact c
 have Vo:(u.1,(dJ u.2.1 m y,u.2.2))∈(az (l,E) m y).1:=by rw[es];exact ace.2 ⟨u,hu,rR rfl⟩
 rw[la (d:=((az (l,E) m y).1,F)) q1 m Vo anv];show((az (l,E) m y).1).map (iM u.1 (dJ (dJ u.2.1 m y) y m))=l;rw[RW (h.ring hu) (ht u hu) SC hyu,es];exact JN h.s hu _
def FJ:List aW→StateT→Prop
 |[],_=>True
 |o::r,s=>(ib s o).length=1∧FJ r (bZ s o).1
theorem uX{s t:StateT}{o:aW}{r:List aW}(h:bZ s o=(t,(0,()))):lC (o::r) s=lC r t:=by rw[lC,h,if_neg (by simp)]
theorem JO:∀{a b:List aW} {s t:StateT},lC a s=(t,(0,()))→lC (a++b) s=lC b t
 |[],b,s,t,h=>by have:s=t:=congrArg Prod.fst h;rw[List.nil_append,this]
 |o::r,b,s,t,h=>by
  have h0:(lC (o::r) s).2.1=0:=by rw[h]
  obtain⟨h1,h2,h3⟩:=go_step h0
  rw[h3]at h;have:lC (o::(r++b)) s=lC (r++b) (bZ s o).1:=by rw[lC,if_neg (by simp[h1])]
  rw[List.cons_append,this];exact JO h
theorem yT:∀{a b:List aW} {s t:StateT},lC a s=(t,(0,()))→FJ a s→FJ b t→FJ (a++b) s
 |[],b,s,t,h,_,hb=>by have:s=t:=congrArg Prod.fst h;rw[List.nil_append,this];exact hb
 |o::r,b,s,t,h,ha,hb=>by
  have h0:(lC (o::r) s).2.1=0:=by rw[h]
  obtain⟨h1,h2,h3⟩:=go_step h0
  rw[h3]at h;exact⟨ha.1,yT h ha.2 hb⟩
theorem w4{s:StateT}{o:aW}(hm:bm o=0):bZ s o=if o.1=1 then l8 s o else if o.1=2 then qA s o else if o.1=3 then kJ s o else if o.1=4 then wK s o else if o.1=5 then iS s o else if o.1=6 then fU s o else qz s o:=by unfold bZ;rw[if_neg (by simp[hm])]
theorem ahy{s:StateT}{o:aW}(hm:bm o=0)(hk:o.1=1):bZ s o=l8 s o:=by rw[w4 hm,if_pos hk]
theorem ahz{s:StateT}{o:aW}(hm:bm o=0)(hk:o.1=2):bZ s o=qA s o:=by rw[w4 hm,if_neg (by omega),if_pos hk]
theorem ahA{s:StateT}{o:aW}(hm:bm o=0)(hk:o.1=3):bZ s o=kJ s o:=by rw[w4 hm,if_neg (by omega),if_neg (by omega),if_pos hk]
theorem ahB{s:StateT}{o:aW}(hm:bm o=0)(hk:o.1=4):bZ s o=wK s o:=by rw[w4 hm,if_neg (by omega),if_neg (by omega),if_neg (by omega),if_pos hk]
theorem ahC{s:StateT}{o:aW}(hm:bm o=0)(hk:o.1=5):bZ s o=iS s o:=by rw[w4 hm,if_neg (by omega),if_neg (by omega),if_neg (by omega),if_neg (by omega),if_pos hk]
theorem ahD{s:StateT}{o:aW}(hm:bm o=0)(hk:o.1=6):bZ s o=fU s o:=by rw[w4 hm,if_neg (by omega),if_neg (by omega),if_neg (by omega),if_neg (by omega),if_neg (by omega),if_pos hk]
theorem acQ{s:StateT}{o:aW}(hm:bm o=0)(hk:7≤o.1):bZ s o=qz s o:=by rw[w4 hm,if_neg (by omega),if_neg (by omega),if_neg (by omega),if_neg (by omega),if_neg (by omega),if_neg (by omega)]
def MP(oe:Bool)(x:ID)(t:ByteArray)(n:Int)(w:ai):ai:=if oe=false∧w.1=x then(w.1,(w.2.1,(t,n))) else w
def OM(oe:Bool)(x:ID)(t:ByteArray)(n:Int)(w:an):an:=if oe=true∧w.1=x then(w.1,(t,n)) else w
def ow(oe:Bool)(x:ID)(t:ByteArray)(n:Int)(d:ak):ak:=(d.1.map (MP oe x t n),d.2.map (OM oe x t n))
def sE(oe:Bool)(x:ID)(d:ak):Bool:=if oe=true then(aL d.2 x).isSome else(aN d.1 x).isSome
def rS(oe:Bool)(d:ak)(x:ID):ByteArray×Int:=if oe=true then gS d x else fQ d x
theorem JP(oe:Bool)(x:ID)(t:ByteArray)(n:Int)(w:ai):(MP oe x t n w).1=w.1:=by unfold MP;split<;>rfl
theorem JQ(oe:Bool)(x:ID)(t:ByteArray)(n:Int)(w:an):(OM oe x t n w).1=w.1:=by unfold OM;split<;>rfl
theorem Su(oe:Bool)(x:ID)(t:ByteArray)(n:Int):jr (MP oe x t n) (OM oe x t n):=⟨JP oe x t n,fun v=>by unfold MP;split<;>rfl,JQ oe x t n⟩
theorem yU{d:ak}(hv:cd d.1)(he:dw d.2)(oe:Bool)(x:ID):ow oe x (rS oe d x).1 (rS oe d x).2 d=d:=by
 unfold ow;have e1:d.1.map (MP oe x (rS oe d x).1 (rS oe d x).2)=d.1:=by
  conv=>rhs;rw[←List.map_id d.1]
  refine acY fun w hw=>?_;unfold MP
  split
  ·rename_i k;unfold rS fQ aO;rw[if_neg (by simp[k.1]),←k.2,eW hv hw];rfl
  ·rfl
 have e2:d.2.map (OM oe x (rS oe d x).1 (rS oe d x).2)=d.2:=by
  conv=>rhs;rw[←List.map_id d.2]
  refine acY fun w hw=>?_;unfold OM
  split
  ·rename_i k;unfold rS gS cH;rw[if_pos k.1,←k.2,yD he hw];rfl
  ·rfl
 rw[e1,e2]
theorem Qo(oe p:Bool)(x y:ID)(t:ByteArray)(n:Int)(d:ak):sE oe x (ow p y t n d)=sE oe x d:=by
 unfold sE ow;simp only;rw[iH (JP p y t n),Aq (JQ p y t n)]
 split<;>simp
theorem Qp{w:StateT}{d:ak}{oe:Bool}{x:ID}{t0:ByteArray}{n0:Int}(he:w.1=ow oe x t0 n0 d)(hf:sE oe x d=true){p:aW}(hm:bm p=0)(hk:7≤p.1)(hi:au p=x)(ho:cX p=oe) :
  bZ w p=((ow oe x (if p.1=7 then gO p else t0) (if p.1=7 then n0 else oN p) d,w.2),(0,())):=by
 have h0:sE oe x w.1=true:=by rw[he,Qo];exact hf
 rw[acQ hm hk,wO (by rw[hi,ho];exact h0),he];have e1:((ow oe x t0 n0 d).1.map (fJ p),(ow oe x t0 n0 d).2.map (gL p))=ow oe x (if p.1=7 then gO p else t0) (if p.1=7 then n0 else oN p) d:=by
  unfold ow;simp only;rw[List.map_map,List.map_map];congr 1
  ·refine acY fun v hv=>?_;show fJ p (MP oe x t0 n0 v)=_;unfold fJ;rw[JP,hi,ho];unfold MP;by_cases k:oe=false∧v.1=x
   ·rw[if_pos k,if_pos k,if_pos k];split<;>rfl
   ·rw[if_neg k,if_neg k,if_neg k]
  ·refine acY fun v hv=>?_;show gL p (OM oe x t0 n0 v)=_;unfold gL;rw[JQ,hi,ho];unfold OM;by_cases k:oe=true∧v.1=x
   ·rw[if_pos k,if_pos k,if_pos k];split<;>rfl
   ·rw[if_neg k,if_neg k,if_neg k]
 rw[e1]
theorem Sw(d:ak)(o:aW):(rQ d o).length=1:=by unfold rQ;dsimp only;split<;>rfl
theorem FK(s:StateT){o:aW}(hk:7≤o.1):(ib s o).length=1:=by unfold ib;rw[if_neg (by omega),if_neg (by omega),if_neg (by omega),if_neg (by omega),if_neg (by omega),if_neg (by omega)];exact Sw _ _
theorem rT{w:StateT}{d:ak}{oe:Bool}{x:ID}(he:w.1=ow oe x e0 0 d)(hf:sE oe x d=true)(hx:cz x=true){t:ByteArray}{n:Int}(ht:lY t=true)(hn:jZ n=true) :
  lC (b7 x oe t n) w=((ow oe x t n d,w.2),(0,()))∧FJ (b7 x oe t n) w:=by
 have two:∀{w:StateT} {t:ByteArray},w.1=ow oe x t 0 d→lC (if n=0 then[] else[RY x oe n]) w=((ow oe x t n d,w.2),(0,()))∧FJ (if n=0 then[] else[RY x oe n]) w:=fun {w t} he=>by
  by_cases h:n=0
  ·rw[if_pos h,h,←he];exact⟨rfl,trivial⟩
  ·rw[if_neg h];have:=Qp he hf (CH (e:=oe) hx hn) (show(7:Int)≤8 by decide) rfl rfl;exact⟨uX this,FK _ (show(7:Int)≤8 by decide),trivial⟩
 unfold b7;by_cases h:t=e0
 ·rw[if_pos h,h];exact two he
 ·rw[if_neg h];have:=Qp he hf (CG (e:=oe) hx ht) (show(7:Int)≤7 by decide) rfl rfl;obtain⟨q1,q2⟩:=two (w:=(ow oe x t 0 d,w.2)) (t:=t) rfl;exact⟨(uX this).trans q1,FK _ (show(7:Int)≤7 by decide),by rw[this];exact q2⟩
theorem mR(x:ID)(oe:Bool):b7 x oe e0 0=[]:=by unfold b7;rw[if_pos rfl,if_pos rfl];rfl
def vM(s:StateT)(o:aW)(u:StateT):Prop:=∃w:StateT,lC (ib s o) u=(w,(0,()))∧w.1=s.1∧FJ (ib s o) u
theorem uY{s u w:StateT}{o p:aW}(hi:ib s o=[p])(h:bZ u p=(w,(0,())))(hw:w.1=s.1)(hl:(ib u p).length=1):vM s o u:=⟨w,by rw[hi,uX h];rfl,hw,by rw[hi];exact⟨hl,trivial⟩⟩
theorem ahE{s u:StateT}{o:aW}(hs:dU s)(h:(bZ s o).2.1=0)(hk:o.1=1)(e:u.1=(bZ s o).1.1):vM s o u:=by
 have hm:=jw h;have hi:=rJ hm;rw[ahy hm hk]at h e;unfold l8 at h e
 split at h
 ·cases h
 rename_i h1;rw[if_neg h1]at e
 split at h
 ·cases h
 rename_i h2;rw[if_neg h2]at e;have hn:aN s.1.1 (au o)=none:=by
  unfold aO at h1
  cases k:aN s.1.1 (au o) with
  |none=>rfl
  |some v=>rw[k]at h1;exact absurd rfl h1
 have e':u.1=(cr (au o,([],(e0,0))) s.1.1,s.1.2):=e;have hv:aO u.1 (au o)=some (au o,([],(e0,0))):=by rw[e'];exact wL (au o,([],(e0,0))) hn
 have hinv:ib s o=[vF 2 (au o)]:=by unfold ib;rw[if_pos hk]
 have zB:bm (vF 2 (au o))=0:=uW (.inr (.inl rfl)) hi;refine uY (w:=(s.1,u.2)) hinv ?_ rfl ?_
 ·rw[ahz zB rfl];unfold qA;rw[show aO u.1 (au (vF 2 (au o)))=some (au o,([],(e0,0))) from hv];show(if 0<([]:List ae).length then _ else _)=_;rw[if_neg (by simp)];have:aF u.1 (au o) zI=s.1:=by rw[e'];unfold aF;show(bE (cr (au o,([],(e0,0))) s.1.1) (au o),bF s.1.2 zI)=s.1;rw[kx hs.d.ge];have:=rG (au o,([],(e0,0))) (l:=s.1.1) hn;exact congrArg (fun l:List ai=>((l,s.1.2):ak)) this
  show((aF u.1 (au o) zI,u.2),_)=_;rw[this]
 ·unfold ib;rw[if_neg (by simp[vF]),if_pos (show(vF 2 (au o)).1=2 from rfl)];have:fQ u.1 (au (vF 2 (au o)))=(e0,0):=by unfold fQ;rw[show aO u.1 (au (vF 2 (au o)))=some (au o,([],(e0,0))) from hv];rfl
  rw[this,mR];rfl
theorem ahF{s u:StateT}{o:aW}(hs:dU s)(h:(bZ s o).2.1=0)(hk:o.1=2)(e:u.1=(bZ s o).1.1):vM s o u:=by
 have hm:=jw h;have hi:=rJ hm;rw[ahz hm hk]at h e;unfold qA at h e
 cases hv:aO s.1 (au o) with
 |none=>rw[hv]at h;cases h
 |some v =>
  rw[hv]at h e;simp only at h e
  split at h
  ·cases h
  rename_i h1;rw[if_neg h1]at e;have hr:v.2.1=[]:=acf (by omega);have EZ:=dr hv;have LL:=gj hv;have e':u.1=(bE s.1.1 (au o),s.1.2):=by rw[e];show(bE s.1.1 (au o),bF s.1.2 zI)=_;rw[kx hs.d.ge]
  have hinv:ib s o=vF 1 (au o)::b7 (au o) false (fQ s.1 (au o)).1 (fQ s.1 (au o)).2:=by unfold ib;rw[if_neg (by omega),if_pos hk]
  have zB:bm (vF 1 (au o))=0:=uW (.inl rfl) hi;have s6:bZ u (vF 1 (au o))=((ow false (au o) e0 0 s.1,u.2),(0,())):=by
   rw[ahy zB rfl];unfold l8;have hn:aO u.1 (au (vF 1 (au o)))=none:=by rw[e'];exact FG _ _
   have aH:¬24≤u.1.1.length:=by rw[e'];have:=MD EZ;rw[LL]at this;have:=hs.d.nv;show ¬24≤(bE s.1.1 (au o)).length;omega
   rw[hn,if_neg (by simp),if_neg aH];have:(cr (au o,([],(e0,0))) u.1.1,u.1.2)=ow false (au o) e0 0 s.1:=by
    rw[e'];show(cr (au o,([],(e0,0))) (bE s.1.1 (au o)),s.1.2)=_;have q:=wY (v:=(au o,([],(e0,0)))) hs.d.sv EZ LL;rw[show cr (au o,([],(e0,0))) (bE s.1.1 (au o))=_ from q];unfold ow;congr 1
    ·refine acY fun z hz=>?_;unfold MP;by_cases k:z.1=au o
     ·rw[if_pos k,if_pos ⟨rfl,k⟩,k];have:z=v:=vI hs.d.sv EZ hz (k.trans LL.symm);rw[this,hr]
     ·rw[if_neg k,if_neg (fun q=>k q.2)]
    ·conv=>lhs;rw[←List.map_id s.1.2]
     refine acY fun z hz=>?_;unfold OM;rw[if_neg (by simp)];rfl
   show((((cr (au o,([],(e0,0))) u.1.1,u.1.2):ak),u.2),_)=_;rw[this]
  obtain⟨q1,q2⟩:=qM hs.d (au o);have hf:sE false (au o) s.1=true:=by unfold sE;rw[if_neg (by simp)];show(aO s.1 (au o)).isSome=true;rw[hv];rfl
  obtain⟨g1,g2⟩:=rT (w:=(ow false (au o) e0 0 s.1,u.2)) (oe:=false) rfl hf hi q1 q2;have Xk:ow false (au o) (fQ s.1 (au o)).1 (fQ s.1 (au o)).2 s.1=s.1:=yU hs.d.sv hs.d.se false (au o);refine⟨(s.1,u.2),?_,rfl,?_⟩
  ·rw[hinv,uX s6,g1,Xk]
  ·rw[hinv];exact⟨by unfold ib;rw[if_pos (show(vF 1 (au o)).1=1 from rfl)];rfl,by rw[s6];exact g2⟩
theorem ahG{s u:StateT}{o:aW}(hs:dU s)(h:(bZ s o).2.1=0)(hk:o.1=3)(hu:dU u)(e:u.1=(bZ s o).1.1):vM s o u:=by
 have hm:=jw h;have hi:=rJ hm;rw[ahA hm hk]at h e;unfold kJ at h e
 split at h
 ·cases h
 rename_i h1;rw[if_neg h1]at e
 split at h
 ·cases h
 rename_i h2;rw[if_neg h2]at e
 split at h
 ·cases h
 rename_i h3;rw[if_neg h3]at e
 split at h
 ·cases h
 rename_i h4;rw[if_neg h4]at e
 split at h
 ·cases h
 rename_i h5;rw[if_neg h5]at e;have hn:aL s.1.2 (au o)=none:=by
  unfold cH at h1
  cases k:aL s.1.2 (au o) with
  |none=>rfl
  |some v=>rw[k]at h1;exact absurd rfl h1
 obtain⟨a1,a2⟩:=lj (s:=s) (c:=oA o) (by simpa using h3);obtain⟨b1,b2⟩:=lj (s:=s) (c:=oB o) (by simpa using h4);obtain⟨cb,hcb⟩:∃cb,cb=(if(aO s.1 (oB o).1).isSome=true∧(oB o).2=(au o,0) then oB o else(aR s (oB o)).1):=⟨_,rfl⟩;have hb:cb.1=(oB o).1:=by
  rw[hcb]
  split
  ·rfl
  ·exact b2
 have e':u.1=br (br (s.1.1,bR (au o,(e0,0)) s.1.2) (aR s (oA o)).1 (au o,0)) cb (au o,1):=by rw[e,hcb];rfl
 have RT:Rw ((s.1.1,bR (au o,(e0,0)) s.1.2):ak).1:=hs.d.rw;obtain⟨va,hva⟩:=ab3.1 (show(aN s.1.1 (aR s (oA o)).1.1).isSome=true by rw[a2];exact a1);have n0:=hs.d.mP hn 0;have n1:=hs.d.mP hn 1;obtain⟨p1,r1⟩:=lD (c:=(aR s (oA o)).1) (x:=(au o,0)) RT hva n0;obtain⟨vb,hvb⟩:=ab3.1 (tI (x:=cb.1) (y:=(aR s (oA o)).1.1) (gN (aV (s.1.1,bR (au o,(e0,0)) s.1.2) (aR s (oA o)).1.1) (aR s (oA o)).1.2 (au o,0)) (by rw[hb];exact b1));have n1':(au o,1)∉aq (br (s.1.1,bR (au o,(e0,0)) s.1.2) (aR s (oA o)).1 (au o,0)).1:=fun k=>by
  rcases abi.1 (p1.mem_iff.1 k) with k|k
  ·cases k
  ·exact n1 k
 have gv1:∀z∈(br (s.1.1,bR (au o,(e0,0)) s.1.2) (aR s (oA o)).1 (au o,0)).1,GV z:=tH (d:=(s.1.1,bR (au o,(e0,0)) s.1.2)) hs.d.gv _ _;have q2:=BL r1 (c:=cb) (q:=(au o,1)) hvb (gv1 vb (dr hvb)).t n1';have q1:=BL (D:=(s.1.1,bR (au o,(e0,0)) s.1.2)) RT (c:=(aR s (oA o)).1) (q:=(au o,0)) hva (hs.d.gv va (dr hva)).t n0;have u4:aL u.1.2 (au o)=some (au o,(e0,0)):=by rw[e'];exact FF (au o,(e0,0)) hn
 have hes:(aL u.1.2 (au o)).isSome=true:=by rw[u4];rfl
 have x0:=hu.d.g9 hes (s:=0) (.inl rfl);have x1:=hu.d.g9 hes (s:=1) (.inr rfl);have hD:av (av u.1 (au o,0)) (au o,1)=(s.1.1,bR (au o,(e0,0)) s.1.2):=by rw[yR hu.d.rw x0 x1 (fun k=>by cases k),e',q2,q1]
 have hinv:ib s o=[vF 4 (au o)]:=by unfold ib;rw[if_neg (by omega),if_neg (by omega),if_pos hk]
 have zB:bm (vF 4 (au o))=0:=uW (.inr (.inr rfl)) hi;refine uY (w:=(s.1,bM (bM u.2 ((au o,0),dy u.1 (au o,0))) ((au o,1),dy u.1 (au o,1)))) hinv ?_ rfl ?_
 ·rw[ahB zB rfl];unfold wK;rw[if_neg (show ¬(cH u.1 (au (vF 4 (au o)))).isSome=false by show ¬(aL u.1.2 (au o)).isSome=false;rw[hes];simp)];have:aF (av (av u.1 (au o,0)) (au o,1)) zI (au o)=s.1:=by rw[hD];show(bE s.1.1 zI,bF (bR (au o,(e0,0)) s.1.2) (au o))=s.1;rw[lE hs.d.gv];have:=wX (au o,(e0,0)) (l:=s.1.2) hn;exact congrArg (fun l:List an=>((s.1.1,l):ak)) this
  show((aF (av (av u.1 (au o,0)) (au o,1)) zI (au o),_),_)=_;rw[this];rfl
 ·unfold ib;rw[if_neg (by simp[vF]),if_neg (by simp[vF]),if_neg (by simp[vF]),if_pos (show(vF 4 (au o)).1=4 from rfl)];unfold FE;have:gS u.1 (au (vF 4 (au o)))=(e0,0):=by unfold gS;rw[show cH u.1 (au (vF 4 (au o)))=some (au o,(e0,0)) from u4];rfl
  rw[this,mR];rfl
theorem acR{u:StateT}{y:ae}(h:(bJ u.1 y).isSome=true):resolve u y=y:=by unfold resolve;rw[res,if_pos h]
theorem HY{u:StateT}(h:Rw u.1.1){v:ai}{y:ae}(hv:v∈u.1.1)(hy:y∈v.2.1):aR u (v.1,y)=((v.1,y),(0,())):=by unfold aR;rw[show aO u.1 ((v.1,y):ml).1=some v from eW h.s hv];have hr:resolve u y=y:=acR (by show(EM u.1.1 y).isSome=true;rw[dp h hv hy];rfl);show(((v.1,mN u (v.1,y) v):ml),((0:Int),()))=_;unfold mN;rw[show resolve u ((v.1,y):ml).2=y from hr,if_pos hy]
theorem BN{u:StateT}{v:ai}(hs:cd u.1.1)(hv:v∈u.1.1)(hr:v.2.1=[])(y:ae):aR u (v.1,y)=((v.1,zD),(0,())):=by unfold aR;rw[show aO u.1 ((v.1,y):ml).1=some v from eW hs hv];show(((v.1,mN u (v.1,y) v):ml),((0:Int),()))=_;unfold mN;rw[hr,if_neg (by simp)]
theorem FL{u:StateT}{c:ml}(h:(aN u.1.1 c.1).isSome=true):(aR u c).2.1=0:=by unfold aR aO;obtain⟨v,hv⟩:=ab3.1 h;rw[hv]
theorem HZ{row:List ae}{x:ae}(hn:row.Nodup)(hx:x∈row)(hp:cC row x=x):bz row x=[]:=by
 have hl:0<row.length:=adj hx;obtain⟨a,h1,h2,_⟩:=eU hx;have ha:=(aa9.1 h2).1;have aH:(a+(row.length-1))%row.length<row.length:=adr _ hl;unfold cC cU at hp;rw[if_pos hx,h1,Int.toNat_natCast,List.getElem?_eq_getElem aH]at hp;have h3:row[(a+(row.length-1))%row.length]? = some x:=by rw[List.getElem?_eq_getElem aH];exact congrArg some hp
 have h4:=ng hn h3 h2;have h5:row.length=1:=by
  by_cases k:a=0
  ·rw[k,Nat.zero_add,Nat.mod_eq_of_lt (by omega)]at h4;omega
  ·have e:a+(row.length-1)=(a-1)+row.length:=by omega
   rw[e,Nat.add_mod_right,Nat.mod_eq_of_lt (by omega)]at h4;omega
 have:=(qD hx hn).length_eq;rw[List.length_cons]at this;exact acf (by omega)
theorem MF{row:List ae}{q:ae}(ht:bB row=row)(hq:q∉row):bz row q=row:=by unfold bz;have:(row.filter fun e=>decide (e≠q))=row:=adu.2 fun w hw=>decide_eq_true fun e:w=q=>hq (e▸hw);rw[this,ht]
theorem o6{D:ak}(h:Rw D.1){v:ai}(hv:v∈D.1)(ht:bB v.2.1=v.2.1){q:ae}(hq:q∈aq D.1):(v.1,(bz v.2.1 q,v.2.2))∈(av D q).1:=by
 obtain⟨w,hw,SJ⟩:=aM.1 hq;rw[c9 h hw SJ];by_cases k:v.1=w.1
 ·have:v=w:=vI h.s hw hv k;subst this;exact ace.2 ⟨v,hv,rR rfl⟩
 ·have hqv:q∉v.2.1:=fun c=>k (congrArg Prod.fst (h.one hw hv SJ c));rw[MF ht hqv];exact ace.2 ⟨v,hv,mi k⟩
theorem Xl{d:ak}(h:Wf d){v:ai}{x:ae}(hv:v∈d.1)(hx:x∈v.2.1)(fe:ae):Gv d x fe=(v.1,if cC (bz v.2.1 fe) x=x then zD else cC (bz v.2.1 fe) x):=by
 have ha:bJ d x=some v.1:=dp h.rw hv hx;unfold Gv;rw[ha];simp only[Option.getD_some];rw[gk h.sv hv]
 split<;>rfl
theorem ahH{s u:StateT}{o:aW}(hs:dU s)(hg:bY s.1=0)(h:(bZ s o).2.1=0)(hk:o.1=4)(hu:dU u)(e:u.1=(bZ s o).1.1):vM s o u:=by
 have hm:=jw h;have hi:=rJ hm;have he:(aL s.1.2 (au o)).isSome=true:=HW h hk;obtain⟨ed,ZC⟩:=ab3.1 he;rw[ahB hm hk]at h e;unfold wK at h e;rw[if_neg (by show ¬(aL s.1.2 (au o)).isSome=false;rw[he];simp)]at h e;obtain⟨x0,hx0⟩:∃x0:ae,x0=(au o,0):=⟨_,rfl⟩;obtain⟨x1,JW⟩:∃x1:ae,x1=(au o,1):=⟨_,rfl⟩;have N3:x0≠x1:=by rw[hx0,JW];exact YS _
 have m0:x0∈aq s.1.1:=by rw[hx0];exact hs.d.g9 he (.inl rfl)
 have m1:x1∈aq s.1.1:=by rw[JW];exact hs.d.g9 he (.inr rfl)
 obtain⟨v,hv,Xq⟩:=aM.1 m0;obtain⟨w,hw,F9⟩:=aM.1 m1;have RT:=hs.d.rw;have tv:=(hs.d.gv v hv).t;have tw:=(hs.d.gv w hw).t;have hc:=yR RT m0 m1 N3;obtain⟨p0,r0⟩:=cZ RT m0;obtain⟨p1,r1⟩:=cZ RT m1;have m0':x0∈aq (av s.1 x1).1:=(abi.1 (p1.mem_iff.1 m0)).resolve_left N3;have m1':x1∈aq (av s.1 x0).1:=(abi.1 (p0.mem_iff.1 m1)).resolve_left (fun k=>N3 k.symm);have e':u.1=((av (av s.1 x1) x0).1,bF s.1.2 (au o)):=by rw[e];show(bE (av (av s.1 (au o,0)) (au o,1)).1 zI,bF s.1.2 (au o))=_;rw[←hx0,←JW,lE (iz (iz hs.d.gv x0) x1),hc]
 have hT:u.1.1=(av (av s.1 x1) x0).1:=by rw[e']
 have hT2:u.1.1=(av (av s.1 x0) x1).1:=by rw[hT,hc]
 have v1:(v.1,(bz v.2.1 x1,v.2.2))∈(av s.1 x1).1:=o6 RT hv tv m1;have v2:(v.1,(bz (bz v.2.1 x1) x0,v.2.2))∈u.1.1:=by rw[hT];exact o6 r1 v1 (uP _ _) m0'
 have w1:(w.1,(bz w.2.1 x0,w.2.2))∈(av s.1 x0).1:=o6 RT hw tw m0;have w2:(w.1,(bz (bz w.2.1 x0) x1,w.2.2))∈u.1.1:=by rw[hT2];exact o6 r0 w1 (uP _ _) m1'
 have v10:x0∈bz v.2.1 x1:=qO.2 ⟨Xq,N3⟩;have nv1:(bz v.2.1 x1).Nodup:=r1.ring v1;obtain⟨cA,hcA⟩:∃cA,cA=Gv s.1 x0 x1:=⟨_,rfl⟩;obtain⟨cB,YV⟩:∃cB,cB=Gv s.1 x1 zD:=⟨_,rfl⟩;have zd:zD∉w.2.1:=fun k=>by obtain⟨f,hf,f1,_⟩:=cO.1 (hs.d.pd.mem_iff.1 (aM.2 ⟨w,hw,k⟩));have:=(hs.d.ge f hf).i;rw[f1]at this;cases this
 have eA:cA=(v.1,if cC (bz v.2.1 x1) x0=x0 then zD else cC (bz v.2.1 x1) x0):=by rw[hcA];exact Xl hs.d hv Xq x1
 have eB:cB=(w.1,if cC w.2.1 x1=x1 then zD else cC w.2.1 x1):=by rw[YV,Xl hs.d hw F9 zD,MF tw zd]
 have kA:aR u cA=(cA,(0,())):=by
  rw[eA];by_cases k:cC (bz v.2.1 x1) x0=x0
  ·rw[if_pos k];exact BN (v:=(v.1,(bz (bz v.2.1 x1) x0,v.2.2))) hu.d.sv v2 (HZ nv1 v10 k) zD
  ·rw[if_neg k];exact HY (v:=(v.1,(bz (bz v.2.1 x1) x0,v.2.2))) hu.d.rw v2 (qO.2 ⟨AP v10,k⟩)
 have fB:(aN u.1.1 cB.1).isSome=true:=by rw[eB];show(aN u.1.1 w.1).isSome=true;have:=eW hu.d.sv w2;rw[show aN u.1.1 w.1=_ from this];rfl
 have kB:(if(aO u.1 cB.1).isSome=true∧cB.2=x0 then cB else(aR u cB).1)=cB:=by
  by_cases k0:(aO u.1 cB.1).isSome=true∧cB.2=x0
  ·rw[if_pos k0]
  ·rw[if_neg k0];have k1:cB.2≠x0:=fun k=>k0 ⟨fB,k⟩;rw[eB]at k1 ⊢;by_cases k:cC w.2.1 x1=x1
   ·rw[if_pos k];have FZ:bz (bz w.2.1 x0) x1=[]:=by rw[HX (RT.ring hw),HZ (RT.ring hw) F9 k];have:=fw ([]:List ae);exact List.Perm.eq_nil this
    rw[BN (v:=(w.1,(bz (bz w.2.1 x0) x1,w.2.2))) hu.d.sv w2 FZ zD]
   ·rw[if_neg k]at k1 ⊢;have:=HY (v:=(w.1,(bz (bz w.2.1 x0) x1,w.2.2))) hu.d.rw w2 (y:=cC w.2.1 x1) (qO.2 ⟨qO.2 ⟨AP F9,k1⟩,k⟩);rw[this]
 have fA:(aN u.1.1 cA.1).isSome=true:=by rw[eA];show(aN u.1.1 v.1).isSome=true;have:=eW hu.d.sv v2;rw[show aN u.1.1 v.1=_ from this];rfl
 have hn:aL u.1.2 (au o)=none:=by rw[e'];exact FH _ _
 have aH:¬40≤u.1.2.length:=by rw[e'];have:=ME (kZ ZC);rw[jm ZC]at this;have:=hs.d.ne;show ¬40≤(bF s.1.2 (au o)).length;omega
 have hE:bR (au o,(e0,0)) u.1.2=s.1.2.map (OM true (au o) e0 0):=by
  rw[e'];have q:=wZ (v:=(au o,(e0,0))) hs.d.se (kZ ZC) (jm ZC);refine(show bR (au o,(e0,0)) (bF s.1.2 (au o))=_ from q).trans (acY fun z hz=>?_);unfold OM;by_cases k:z.1=au o
  ·rw[if_pos k,if_pos ⟨rfl,k⟩,k]
  ·rw[if_neg k,if_neg (fun q=>k q.2)]
 have hV:s.1.1.map (MP true (au o) e0 0)=s.1.1:=by
  conv=>rhs;rw[←List.map_id s.1.1]
  exact acY fun z hz=>if_neg (by simp)
 have hD:br (br (u.1.1,bR (au o,(e0,0)) u.1.2) cA x0) cB x1=ow true (au o) e0 0 s.1:=by
  have a1:=BM r1 v1 v10 (uP _ _) (bR (au o,(e0,0)) u.1.2);have a2:br (u.1.1,bR (au o,(e0,0)) u.1.2) cA x0=((av s.1 x1).1,bR (au o,(e0,0)) u.1.2):=by rw[eA,hT];exact congrArg (fun l:List ai=>((l,bR (au o,(e0,0)) u.1.2):ak)) a1
  have b1:=BM RT hw F9 tw (bR (au o,(e0,0)) u.1.2);rw[a2,eB];unfold ow;rw[hV,←hE];exact congrArg (fun l:List ai=>((l,bR (au o,(e0,0)) u.1.2):ak)) b1
 have Lq:Wf (ow true (au o) e0 0 s.1):=by rw[←hD,hx0,JW];exact hu.d.link hi hn aH fA fB
 have vC:bY (ow true (au o) e0 0 s.1)=0:=FC (Su true (au o) e0 0) hs.d Lq hg;have hinv:ib s o=mh (au o) cA cB::b7 (au o) true (gS s.1 (au o)).1 (gS s.1 (au o)).2:=by unfold ib FE;rw[if_neg (by omega),if_neg (by omega),if_neg (by omega),if_pos hk,hcA,YV,hx0,JW]
 have zB:bm (mh (au o) cA cB)=0:=by
  refine HV hi ?_ ?_
  ·rw[hcA];exact CS hs.d m0 N3
  ·rw[YV];exact CS hs.d m1 (fun k=>zd (by rw[←k];exact F9))
 have hL:gP u (mh (au o) cA cB)=ow true (au o) e0 0 s.1:=by unfold gP;show br (br (u.1.1,bR (au o,(e0,0)) u.1.2) (aR u cA).1 (au o,0)) (if(aO u.1 cB.1).isSome=true∧cB.2=(au o,0) then cB else(aR u cB).1) (au o,1)=_;rw[←hx0,←JW,kB,kA];exact hD
 have s6:bZ u (mh (au o) cA cB)=((ow true (au o) e0 0 s.1,u.2),(0,())):=by rw[ahA zB rfl];unfold kJ;rw[if_neg (show ¬(cH u.1 (au (mh (au o) cA cB))).isSome=true by show ¬(aL u.1.2 (au o)).isSome=true;rw[hn];simp),if_neg aH,if_neg (show ¬(aR u (oA (mh (au o) cA cB))).2.1≠0 by show ¬(aR u cA).2.1≠0;rw[FL fA];simp),if_neg (show ¬(aR u (oB (mh (au o) cA cB))).2.1≠0 by show ¬(aR u cB).2.1≠0;rw[FL fB];simp),hL,if_neg (by rw[vC];simp)]
 obtain⟨q1,q2⟩:=qN hs.d (au o);have hf:sE true (au o) s.1=true:=by unfold sE;rw[if_pos rfl];exact he
 obtain⟨g1,g2⟩:=rT (w:=(ow true (au o) e0 0 s.1,u.2)) (oe:=true) rfl hf hi q1 q2;have Xk:ow true (au o) (gS s.1 (au o)).1 (gS s.1 (au o)).2 s.1=s.1:=yU hs.d.sv hs.d.se true (au o);refine⟨(s.1,u.2),?_,rfl,?_⟩
 ·rw[hinv,uX s6,g1,Xk]
 ·rw[hinv];exact⟨by unfold ib;rw[if_neg (by simp[mh]),if_neg (by simp[mh]),if_pos (show(mh (au o) cA cB).1=3 from rfl)];rfl,by rw[s6];exact g2⟩
theorem ahI{s u:StateT}{o:aW}(hs:dU s)(h:(bZ s o).2.1=0)(hk:7≤o.1)(e:u.1=(bZ s o).1.1):vM s o u:=by
 have hm:=jw h;have hi:=rJ hm;rw[acQ hm hk]at h e;have hf:sE (cX o) (au o) s.1=true:=by
  cases k:sE (cX o) (au o) s.1 with
  |true=>rfl
  |false=>rw[R1 k]at h;cases h
 rw[wO hf]at e;obtain⟨q1,q2⟩:=qM hs.d (au o);obtain⟨q3,q4⟩:=qN hs.d (au o);have hinv:ib s o=rQ s.1 o:=by unfold ib;rw[if_neg (by omega),if_neg (by omega),if_neg (by omega),if_neg (by omega),if_neg (by omega),if_neg (by omega)]
 have hun:=MB hm hk s.1;have hV:∀v,aN s.1.1 (au o)=some v→cX o=false→(rS (cX o) s.1 (au o))=v.2.2:=fun v hv ho=>by unfold rS fQ aO;rw[ho,if_neg (by simp),hv];rfl
 have hE:∀v,aL s.1.2 (au o)=some v→cX o=true→(rS (cX o) s.1 (au o))=v.2:=fun v hv ho=>by unfold rS gS cH;rw[ho,if_pos rfl,hv];rfl
 have ZD:lY (rS (cX o) s.1 (au o)).1=true∧jZ (rS (cX o) s.1 (au o)).2=true:=by unfold rS;split;exact⟨q3,q4⟩;exact⟨q1,q2⟩
 have fin:∀p:aW,rQ s.1 o=[p]→bm p=0→au p=au o→cX p=cX o→p.1=o.1→gO p=(rS (cX o) s.1 (au o)).1∨o.1≠7→oN p=(rS (cX o) s.1 (au o)).2∨o.1=7→vM s o u:=fun p hp hmp h1 h2 h3 h4 h5=>by
  have hfu:sE (cX p) (au p) u.1=true:=by
   rw[h1,h2,e];unfold sE at hf ⊢;rw[iH (fun v=>(HR o).i v),Aq (Jq o)]
   split at hf
   ·rename_i k;rw[if_pos k];simpa using hf
   ·rename_i k;rw[if_neg k];simpa using hf
  have hb:=V5 hs (o:=o) (p:=p) h1.symm h2.symm h3.symm (fun v hv ho=>by
    have:=hV v hv ho;refine⟨fun k=>?_,fun k=>?_⟩
    ·rw[h4.resolve_right (fun q=>q k),this]
    ·rw[h5.resolve_right k,this])
   (fun v hv ho=>by
    have:=hE v hv ho;refine⟨fun k=>?_,fun k=>?_⟩
    ·rw[h4.resolve_right (fun q=>q k),this]
    ·rw[h5.resolve_right k,this])
  refine uY (w:=(s.1,u.2)) (hinv.trans hp) ?_ rfl (FK _ (by rw[h3];exact hk));rw[acQ hmp (by rw[h3];exact hk),wO hfu,e];have:=congrArg Prod.fst hb;exact congrArg (fun d:ak=>(((d,u.2),((0:Int),())):StateT×(Int×Unit))) this
 by_cases h7:o.1=7
 ·rw[if_pos h7]at hun;exact fin _ hun (CG hi ZD.1) rfl rfl h7.symm (.inl rfl) (.inr h7)
 ·rw[if_neg h7]at hun;have:=(ky hm).2;exact fin _ hun (CH hi ZD.2) rfl rfl (show(8:Int)=o.1 by omega) (.inr h7) (.inl rfl)
theorem H3{α:Type}{a:Option α}(h:¬a.isSome=true):a=none:=by
 cases a
 ·rfl
 ·exact absurd rfl h
theorem ahJ{s u:StateT}{o:aW}(hs:dU s)(h:(bZ s o).2.1=0)(hk:o.1=5)(e:u.1=(bZ s o).1.1):vM s o u:=by
 have hm:=jw h;obtain⟨hv,hw,n0,n3⟩:=mZ hm hk;rw[ahC hm hk]at h e;unfold iS at h e
 split at h
 ·cases h
 rename_i h1;rw[if_neg h1]at e
 split at h
 ·cases h
 rename_i h2;rw[if_neg h2]at e
 split at h
 ·cases h
 rename_i h3;rw[if_neg h3]at e
 split at h
 ·cases h
 rename_i h4;rw[if_neg h4]at e
 split at h
 ·cases h
 rename_i h5;rw[if_neg h5]at e;have hx:(aL s.1.2 (au o)).isSome=true:=nc h1;have Qv:aN s.1.1 (b6 o)=none:=H3 h2;have bq:aL s.1.2 (aj o)=none:=H3 h3;obtain⟨s1,s2⟩:=yy n0 n3;obtain⟨m,em⟩:∃m:ae,m=Jj o:=⟨_,rfl⟩;obtain⟨k,ek⟩:∃k:ae,k=FQ o:=⟨_,rfl⟩;have hm1:m.1=au o:=by rw[em];rfl
 have F3:k.1=aj o:=by rw[ek];rfl
 have LO:m∈aq s.1.1:=by rw[em];exact hs.d.g9 hx s1
 have SV:ah k∉aq s.1.1:=by rw[ek];exact hs.d.mP bq _
 have IA:m.1≠k.1:=fun q=>by rw[hm1,F3]at q;rw[q,bq]at hx;cases hx
 have pH:k.2=0∨k.2=1:=by rw[ek];exact s2
 obtain⟨T,hT⟩:∃T,T=(az s.1 m (ah k)).1:=⟨_,rfl⟩;have hTv:aN T (b6 o)=none:=by rw[hT];unfold az Vs.b8;rw[iH (pP _ _),Qv];rfl
 have e':u.1=(cr (b6 o,(bB [m,k],(e0,0))) T,bR (aj o,(e0,0)) s.1.2):=by rw[e,hT,em,ek];rfl
 have QT:aO u.1 (b6 o)=some (b6 o,(bB [m,k],(e0,0))):=by rw[e'];exact wL (b6 o,(bB [m,k],(e0,0))) hTv
 have u4:cH u.1 (aj o)=some (aj o,(e0,0)):=by rw[e'];exact FF (aj o,(e0,0)) bq
 have hD:Gq u (cP (b6 o) (aj o)) m k=s.1:=by
  unfold Gq;have a1:aF u.1 (b6 o) zI=(T,bR (aj o,(e0,0)) s.1.2):=by
   rw[e'];unfold aF;have q1:bE (cr (b6 o,(bB [m,k],(e0,0))) T) (b6 o)=T:=rG (b6 o,(bB [m,k],(e0,0))) hTv;have q2:bF (bR (aj o,(e0,0)) s.1.2) zI=bR (aj o,(e0,0)) s.1.2:=kx (fun f hf=>by
    rcases ku.1 hf with rfl|hf
    ·exact⟨hw,lf,lg⟩
    ·exact hs.d.ge f hf)
   show(bE (cr (b6 o,(bB [m,k],(e0,0))) T) (b6 o),bF (bR (aj o,(e0,0)) s.1.2) zI)=_;rw[q1,q2]
  show aF (az (aF u.1 (b6 o) zI) (ah k) m) zI k.1=s.1;rw[a1,hT,F3];unfold aF;have b1:=yS (l:=s.1.1) hs.d.rw LO SV (fun v hv=>(hs.d.gv v hv).t) s.1.2 (bR (aj o,(e0,0)) s.1.2);show(bE (az ((az (s.1.1,s.1.2) m (ah k)).1,bR (aj o,(e0,0)) s.1.2) (ah k) m).1 zI,bF (bR (aj o,(e0,0)) s.1.2) (aj o))=s.1;rw[b1,lE hs.d.gv];have:=wX (aj o,(e0,0)) (l:=s.1.2) bq;exact congrArg (fun l:List an=>((s.1.1,l):ak)) this
 have hinv:ib s o=[cP (b6 o) (aj o)]:=by unfold ib;rw[if_neg (by omega),if_neg (by omega),if_neg (by omega),if_neg (by omega),if_pos hk];rfl
 have zB:bm (cP (b6 o) (aj o))=0:=Mz hv hw;have hl0:fQ u.1 (b6 o)=(e0,0):=by unfold fQ;rw[QT];rfl
 have hl1:gS u.1 (aj o)=(e0,0):=by unfold gS;rw[u4];rfl
 have ho:bZ u (cP (b6 o) (aj o))=((s.1,Hk u.2 m k),(0,())):=by
  rw[ahD zB rfl];unfold fU;rw[show aO u.1 (au (cP (b6 o) (aj o)))=_ from QT];rcases E6 m k with q|q
  ·show(match bB [m,k] with | [r0,r1]=>dG u (cP (b6 o) (aj o)) r0 r1|_=>(zS,(14,())))=_;rw[q];show dG u (cP (b6 o) (aj o)) m k=_;unfold dG;rw[if_neg IA,if_neg (show ¬m.1=aj (cP (b6 o) (aj o)) from fun c=>IA (c.trans F3.symm)),if_pos (show k.1=aj (cP (b6 o) (aj o)) from F3),hD]
  ·show(match bB [m,k] with | [r0,r1]=>dG u (cP (b6 o) (aj o)) r0 r1|_=>(zS,(14,())))=_;rw[q];show dG u (cP (b6 o) (aj o)) k m=_;unfold dG;rw[if_neg (fun c=>IA c.symm),if_pos (show k.1=aj (cP (b6 o) (aj o)) from F3),hD]
 refine uY (w:=(s.1,Hk u.2 m k)) hinv ho rfl ?_;unfold ib;rw[if_neg (by simp[cP]),if_neg (by simp[cP]),if_neg (by simp[cP]),if_neg (by simp[cP]),if_neg (by simp[cP]),if_pos (show(cP (b6 o) (aj o)).1=6 from rfl)];rw[show aO u.1 (au (cP (b6 o) (aj o)))=_ from QT];have len:∀r0 r1,(da u.1 (cP (b6 o) (aj o)) r0 r1).length=1:=fun r0 r1=>by unfold da;show([_]++b7 (b6 o) false (fQ u.1 (b6 o)).1 (fQ u.1 (b6 o)).2++b7 (aj o) true (gS u.1 (aj o)).1 (gS u.1 (aj o)).2).length=1;rw[hl0,hl1,mR,mR];rfl
 rcases E6 m k with q|q
 ·show(match bB [m,k] with | [r0,r1]=>da u.1 (cP (b6 o) (aj o)) r0 r1|_=>[]).length=1;rw[q];exact len m k
 ·show(match bB [m,k] with | [r0,r1]=>da u.1 (cP (b6 o) (aj o)) r0 r1|_=>[]).length=1;rw[q];exact len k m
theorem ZE{p q:Int}(hp:p=0∨p=1)(hq:q=0∨q=1):IntKind.wrap .i64 (1-Int.tmod (1-p+2*q) 2)=p∧IntKind.wrap .i64 (Int.tdiv (1-p+2*q) 2)=q:=by rcases hp with rfl|rfl<;>rcases hq with rfl|rfl<;>exact⟨by decide +kernel,by decide +kernel⟩
theorem Sx{r0 r1:ae}(h:r0≠r1):bB [r1,r0]=bB [r0,r1]:=oi (row:=[r0,r1]) (j:=1) (by simp[h]) (by simp)
theorem ahK{s u:StateT}{o:aW}(hs:dU s)(h:(bZ s o).2.1=0)(hk:o.1=6)(e:u.1=(bZ s o).1.1):vM s o u:=by
 have hm:=jw h;have hi:=rJ hm;have ho:=E2 hm hk;obtain⟨v,r0,r1,hv,hr,bq,hor⟩:=AO h hk;rw[ahD hm hk]at h e;have EZ:v∈s.1.1:=dr hv;have LL:v.1=au o:=gj hv;obtain⟨a,ha⟩:∃a,a=(yN r0 r1 (aj o)).1:=⟨_,rfl⟩;obtain⟨b,hb⟩:∃b,b=(yN r0 r1 (aj o)).2:=⟨_,rfl⟩;have RJ:fU s o=((Gq s o a b,Hk s.2 a b),(0,()))∧b.1=aj o∧a.1≠b.1∧((a=r0∧b=r1)∨(a=r1∧b=r0)):=by
  unfold fU;rw[hv];show(match v.2.1 with | [r0,r1]=>dG s o r0 r1|_=>(zS,(14,())))=_∧_;rw[hr];show dG s o r0 r1=_∧_;unfold dG;rw[if_neg bq];by_cases k:r0.1=aj o
  ·have:yN r0 r1 (aj o)=(r1,r0):=if_pos k;rw[if_pos k,ha,hb,this];exact⟨rfl,k,fun q=>bq q.symm,.inr ⟨rfl,rfl⟩⟩
  ·have:yN r0 r1 (aj o)=(r0,r1):=if_neg k;have k1:=hor.resolve_left k;rw[if_neg k,if_pos k1,ha,hb,this];exact⟨rfl,k1,bq,.inl ⟨rfl,rfl⟩⟩
 obtain⟨RJ,JV,mI,XA⟩:=RJ;rw[RJ]at e;have hpm:v.2.1.Perm [a,b]:=by
  rw[hr];rcases XA with⟨rfl,rfl⟩|⟨rfl,rfl⟩
  ·exact adO _
  ·exact List.Perm.swap _ _ _
 have hav:a∈v.2.1:=hpm.mem_iff.2 (by simp);have hbv:b∈v.2.1:=hpm.mem_iff.2 (by simp);have had:=aM.2 ⟨v,EZ,hav⟩;have hbd:=aM.2 ⟨v,EZ,hbv⟩;have sa:=hs.d.side had;have sb:=hs.d.side hbd;have anz:bB [a,b]=v.2.1:=by
  have Da:r0≠r1:=fun k=>bq (congrArg Prod.fst k);rw[←(hs.d.gv v EZ).t,hr];rcases XA with⟨rfl,rfl⟩|⟨rfl,rfl⟩
  ·rfl
  ·exact Sx Da
 have Yh:(aL s.1.2 (aj o)).isSome=true:=by obtain⟨f,hf,f1,_⟩:=cO.1 (hs.d.pd.mem_iff.1 hbd);rw[←JV,←f1,yD hs.d.se hf];rfl
 obtain⟨ed,ZC⟩:=ab3.1 Yh;obtain⟨fa,hfa,fa1,_⟩:=cO.1 (hs.d.pd.mem_iff.1 had);obtain⟨A,B,f1,f2,f3,f4⟩:=mu hs.d.sv EZ;have pd:(aq s.1.1).Perm (v.2.1++aq (bE s.1.1 v.1)):=by
  rw[f3]
  conv=>lhs;rw[f1]
  exact gY A B v
 have nd:=ac2.1 (pd.nodup_iff.1 hs.d.rw.n);have rw0:Rw (bE s.1.1 v.1):=⟨kX hs.d.sv,nd.2.1⟩;have na:a∉aq (bE s.1.1 v.1):=fun q=>nd.2.2 a hav a q rfl;have hy:ah b∈aq (bE s.1.1 v.1):=by
  have q:=pd.mem_iff.1 (hs.d.other hbd);rcases abG.1 q with q|q
  ·have:=hpm.mem_iff.1 q;rcases abi.1 this with c|c
   ·exact absurd (congrArg Prod.fst c).symm mI
   ·have c:=List.mem_singleton.1 c;exact absurd c (ou sb)
  ·exact q
 have gv0:∀w∈bE s.1.1 v.1,GV w:=fun w hw=>hs.d.gv w (ada.1 (show w∈s.1.1.filter _ from hw)).1;have e':u.1=((az (bE s.1.1 v.1,s.1.2) (ah b) a).1,bF s.1.2 (aj o)):=by
  rw[e];show aF (az (aF s.1 (au o) zI) (ah b) a) zI b.1=_;have q:aF s.1 (au o) zI=(bE s.1.1 v.1,s.1.2):=by unfold aF;rw[kx hs.d.ge,LL]
  rw[q,JV];unfold aF;rw[lE (og (d:=(bE s.1.1 v.1,s.1.2)) gv0 _ _)];rfl
 obtain⟨n,hn⟩:∃n,n=1-a.2+2*b.2:=⟨_,rfl⟩;obtain⟨p,hp⟩:∃p,p=fV a.1 (au o) (aj o) n:=⟨_,rfl⟩;have hinv:ib s o=[p]++b7 (au o) false (fQ s.1 (au o)).1 (fQ s.1 (au o)).2++b7 (aj o) true (gS s.1 (aj o)).1 (gS s.1 (aj o)).2:=by
  unfold ib;rw[if_neg (by omega),if_neg (by omega),if_neg (by omega),if_neg (by omega),if_neg (by omega),if_pos hk,hv];show(match v.2.1 with | [r0,r1]=>da s.1 o r0 r1|_=>[])=_;rw[hr,hp,hn,ha,hb];rfl
 obtain⟨n0,n3⟩:=smN sa sb;have zB:bm p=0:=by rw[hp,hn];exact tS (by rw[←fa1];exact(hs.d.ge fa hfa).i) hi ho n0 n3
 obtain⟨v1,v2⟩:=ZE sa sb;have epM:Jj p=a:=by rw[hp,hn];show((a.1,IntKind.wrap .i64 (1-Int.tmod (1-a.2+2*b.2) 2)):ae)=a;rw[v1]
 have epK:FQ p=b:=by rw[hp,hn];show((aj o,IntKind.wrap .i64 (Int.tdiv (1-a.2+2*b.2) 2)):ae)=b;rw[v2,←JV]
 have hD:Jk u p=ow false (au o) e0 0 (ow true (aj o) e0 0 s.1):=by
  unfold Jk;rw[epM,epK,e'];have q:=yS rw0 hy na (fun w hw=>(gv0 w hw).t) s.1.2 (bF s.1.2 (aj o));show(cr (b6 p,(bB [a,b],(e0,0))) (az ((az (bE s.1.1 v.1,s.1.2) (ah b) a).1,bF s.1.2 (aj o)) a (ah b)).1,bR (aj p,(e0,0)) (bF s.1.2 (aj o)))=_;rw[q,anz];have e1:b6 p=v.1:=by rw[hp,LL];rfl
  have e2:aj p=aj o:=by rw[hp];rfl
  rw[e1,e2];have q1:=wY (v:=(v.1,(v.2.1,(e0,0)))) hs.d.sv EZ rfl;have q2:=wZ (v:=(aj o,(e0,0))) hs.d.se (kZ ZC) (jm ZC);rw[show cr (v.1,(v.2.1,(e0,0))) (bE s.1.1 v.1)=_ from q1,show bR (aj o,(e0,0)) (bF s.1.2 (aj o))=_ from q2];unfold ow;simp only;rw[List.map_map,List.map_map];congr 1
  ·refine acY fun z hz=>?_;show _=MP false (au o) e0 0 (MP true (aj o) e0 0 z);have:MP true (aj o) e0 0 z=z:=if_neg (by simp);rw[this];unfold MP;by_cases k:z.1=v.1
   ·rw[if_pos k,if_pos ⟨rfl,k.trans LL⟩,vI hs.d.sv EZ hz k]
   ·rw[if_neg k,if_neg (fun q=>k (q.2.trans LL.symm))]
  ·refine acY fun z hz=>?_;show _=OM false (au o) e0 0 (OM true (aj o) e0 0 z);have:∀y,OM false (au o) e0 0 y=y:=fun y=>if_neg (by simp);rw[this];unfold OM;by_cases k:z.1=aj o
   ·rw[if_pos k,if_pos ⟨rfl,k⟩,k]
   ·rw[if_neg k,if_neg (fun q=>k q.2)]
 have s6:bZ u p=((ow false (au o) e0 0 (ow true (aj o) e0 0 s.1),u.2),(0,())):=by
  have YM:p.1=5:=by rw[hp];rfl
  rw[ahC zB YM];unfold iS;have c1:(cH u.1 (au p)).isSome=true:=by
   have:fa∈bF s.1.2 (aj o):=ada.2 ⟨hfa,decide_eq_true (fun q=>mI (by rw[←fa1,JV];exact q))⟩;have bQ:au p=fa.1:=by rw[hp,fa1];rfl
   rw[bQ,e'];show(aL (bF s.1.2 (aj o)) fa.1).isSome=true;rw[yD (rH hs.d.se) this];rfl
  have c2:aO u.1 (b6 p)=none:=by
   have bQ:b6 p=v.1:=by rw[hp,LL];rfl
   rw[bQ,e'];show aN (az (bE s.1.1 v.1,s.1.2) (ah b) a).1 v.1=none;unfold az Vs.b8;rw[iH (pP _ _),FG];rfl
  have c3:cH u.1 (aj p)=none:=by
   have bQ:aj p=aj o:=by rw[hp];rfl
   rw[bQ,e'];exact FH _ _
  have c4:¬24≤u.1.1.length:=by rw[e'];show ¬24≤(az (bE s.1.1 v.1,s.1.2) (ah b) a).1.length;unfold az;rw[fK];have:=MD EZ;have:=hs.d.nv;show ¬24≤(bE s.1.1 v.1).length;omega
  have c5:¬40≤u.1.2.length:=by rw[e'];have:=ME (kZ ZC);rw[jm ZC]at this;have:=hs.d.ne;show ¬40≤(bF s.1.2 (aj o)).length;omega
  rw[if_neg (by rw[c1];simp),c2,c3,if_neg (by simp),if_neg (by simp),if_neg c4,if_neg c5,hD]
 have ahL:(ib u p).length=1:=by
  unfold ib;have k:p.1=5:=by rw[hp];rfl
  rw[if_neg (by omega),if_neg (by omega),if_neg (by omega),if_neg (by omega),if_pos k];rfl
 obtain⟨q1,q2⟩:=qM hs.d (au o);obtain⟨q3,q4⟩:=qN hs.d (aj o);have hfE:sE true (aj o) s.1=true:=by unfold sE;rw[if_pos rfl];exact Yh
 have hfV:sE false (au o) (ow true (aj o) e0 0 s.1)=true:=by rw[Qo];unfold sE;rw[if_neg (by simp)];show(aO s.1 (au o)).isSome=true;rw[hv];rfl
 obtain⟨g1,g2⟩:=rT (w:=(ow false (au o) e0 0 (ow true (aj o) e0 0 s.1),u.2)) (oe:=false) rfl hfV hi q1 q2;have acS:ow false (au o) (fQ s.1 (au o)).1 (fQ s.1 (au o)).2 (ow true (aj o) e0 0 s.1)=ow true (aj o) e0 0 s.1:=by
  have V6:cd (ow true (aj o) e0 0 s.1).1:=hs.d.sv.map (JP true (aj o) e0 0);have XW:dw (ow true (aj o) e0 0 s.1).2:=hs.d.se.map (JQ true (aj o) e0 0);have q:=yU V6 XW false (au o);have:rS false (ow true (aj o) e0 0 s.1) (au o)=fQ s.1 (au o):=by
   unfold rS fQ aO;rw[if_neg (by simp)];have:(ow true (aj o) e0 0 s.1).1=s.1.1:=by
    show s.1.1.map (MP true (aj o) e0 0)=s.1.1
    conv=>rhs;rw[←List.map_id s.1.1]
    exact acY fun z hz=>if_neg (by simp)
   rw[this]
  rw[this]at q;exact q
 rw[acS]at g1;obtain⟨g3,g4⟩:=rT (w:=(ow true (aj o) e0 0 s.1,u.2)) (oe:=true) rfl hfE ho q3 q4;have acT:ow true (aj o) (gS s.1 (aj o)).1 (gS s.1 (aj o)).2 s.1=s.1:=yU hs.d.sv hs.d.se true (aj o);rw[acT]at g3;have g0:lC [p] u=((ow false (au o) e0 0 (ow true (aj o) e0 0 s.1),u.2),(0,())):=uX s6;have g01:=(JO (b:=b7 (au o) false (fQ s.1 (au o)).1 (fQ s.1 (au o)).2) g0).trans g1;refine⟨(s.1,u.2),?_,rfl,?_⟩
 ·rw[hinv,JO g01,g3]
 ·rw[hinv];exact yT g01 (yT g0 ⟨ahL,trivial⟩ g2) g4
theorem ahM{s u:StateT}{o:aW}(hs:dU s)(hg:bY s.1=0)(h:(bZ s o).2.1=0)(hu:dU u)(e:u.1=(bZ s o).1.1):vM s o u:=by
 obtain⟨k1,k8⟩:=ky (jw h);by_cases h1:o.1=1;· exact ahE hs h h1 e
 by_cases h2:o.1=2;· exact ahF hs h h2 e
 by_cases h3:o.1=3;· exact ahG hs h h3 hu e
 by_cases h4:o.1=4;· exact ahH hs hg h h4 hu e
 by_cases h5:o.1=5;· exact ahJ hs h h5 e
 by_cases h6:o.1=6;· exact ahK hs h h6 e
 exact ahI hs h (by omega) e
theorem H4:∀(l:List aW) {s u t:StateT} (acc:List aW),dU s→bY s.1=0→lC l s=(t,(0,()))→dU u→u.1=t.1 → ∃w,dU w∧w.1=s.1∧lC (yO l s acc) u=lC acc w∧(FJ acc w→FJ (yO l s acc) u)
 |[],s,u,t,acc,hs,hg,h,hu,e=>⟨u,hu,by
  have q:s=t:=congrArg Prod.fst h;rw[e,q],rfl,fun k=>k⟩
 |o::r,s,u,t,acc,hs,hg,h,hu,e=>by
  have h0:(lC (o::r) s).2.1=0:=by rw[h]
  obtain⟨h1,h2,h3⟩:=go_step h0
  rw[h3]at h;obtain⟨w,hw,we,wg,wo⟩:=H4 r (tR s o++acc) (hs.one o) (W9 hs hg o) h hu e;have hp:tR s o=ib s o:=by unfold tR;rw[if_neg (by simp[h1])]
  obtain⟨z,z1,z2,z3⟩:=ahM hs hg h1 hw we;have hz:dU z:=by have:=dU.go (ib s o) hw;rw[z1]at this;exact this
  rw[hp]at wg wo;refine⟨z,hz,z2,?_,fun k=>?_⟩
  ·show lC (yO r (bZ s o).1 (tR s o++acc)) u=_;rw[hp,wg,JO z1]
  ·show FJ (yO r (bZ s o).1 (tR s o++acc)) u;rw[hp];exact wo (yT z1 z3 k)
end Go.Vs
