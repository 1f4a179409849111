/- What takes operations back -/
import Derived.Test.YtpkfpbpbkabkdaaGreatBack
set_option linter.unusedVariables false
set_option linter.unusedSimpArgs false
namespace Go.Vs
open Go.Proofs Go.Cy
theorem JR{f:ae→ae}{n z:ae}{P:List ae}(h:Path f (n::P) z)(hP:P≠[]):∃p P',P=p::P'∧f n=p:=by
 cases P with
 |nil=>exact absurd rfl hP
 |cons p P'=>exact⟨p,P',rfl,h.1⟩
theorem Xq{d:ak}(h:Wf d){z:ae}(hz:z∈aq d.1):∃r c,c∈b5 d∧jv (ph d) (z::r)∧(z::r).Perm c∧(z::r).Nodup:=by have a:=bL h;obtain⟨c,hc,hzc⟩:=ade.1 (a.p.mem_iff.2 hz);obtain⟨r,h1,h2⟩:=(a.c c hc).head hzc;refine⟨r,c,hc,h1,h2,h2.nodup_iff.2 ?_⟩;have:=a.p.nodup_iff.2 h.rw.n;obtain⟨p,q,w8⟩:=ada hc;rw[w8]at this;exact(ac6.1 ((gx p q c).nodup_iff.1 this)).1
theorem ZI{t:ak}{e:ID}{x y:ae}(h:cf t e)(hx:x∈aq (cj t e).1)(hy:y∈aq (cj t e).1)(SU:x≠y)(sx:sg t x=(e,0))(sy:sg t y=(e,1)) :
  Jy t (e,0) (e,1)↔ah y∉bw (cj t e) (ah x):=by
 obtain⟨X,hX⟩:∃X,X=ah x:=⟨_,rfl⟩;obtain⟨Y,hY⟩:∃Y,Y=ah y:=⟨_,rfl⟩;have hXd:X∈aq (cj t e).1:=hX▸h.w.other hx;have hYd:Y∈aq (cj t e).1:=hY▸h.w.other hy;have hXt:=h.sub hXd;have hYt:=h.sub hYd;have nd:=h.p.nodup_iff.1 h.wf.rw.n;have n0t:=h.x0;have n1t:=h.x1;have acS:∀z∈aq (cj t e).1,z≠(e,0):=fun z hz q=>(abv.1 nd).1 (q▸aa1 _ hz);have acT:∀z∈aq (cj t e).1,z≠(e,1):=fun z hz q=>(abv.1 (abv.1 nd).2).1 (q▸hz);have pX:ph t X=(e,0):=by rw[iO hXt,hX,bU (h.w.side hx)];exact sx
 have pY:ph t Y=(e,1):=by rw[iO hYt,hY,bU (h.w.side hy)];exact sy
 have in0:∀z∈aq t.1,ph t z=(e,0)→z=X:=fun z hz q=>Oe h.wf hz hXt (q.trans pX.symm);have in1:∀z∈aq t.1,ph t z=(e,1)→z=Y:=fun z hz q=>Oe h.wf hz hYt (q.trans pY.symm);have ne0:ph t (e,0)≠(e,0):=fun q=>acS X hXd (in0 _ n0t q).symm;have ne1:ph t (e,1)≠(e,1):=fun q=>acT Y hYd (in1 _ n1t q).symm;have n01:=Y1 e;have dX:ph (cj t e) X=ph t (e,1):=by rw[h.ph hXd];unfold tM;rw[if_pos pX,if_neg ne1]
 have dY:ph (cj t e) Y=ph t (e,0):=by rw[h.ph hYd];unfold tM;rw[if_neg (by rw[pY];exact fun q=>n01 q.symm),if_pos pY,if_neg ne0]
 have dz:∀z∈aq (cj t e).1,ph t z≠(e,0)→ph t z≠(e,1)→ph (cj t e) z=ph t z:=fun z hz q1 q2=>by rw[h.ph hz];unfold tM;rw[if_neg q1,if_neg q2]
 have ind:∀z∈aq t.1,z≠(e,0)→z≠(e,1)→z∈aq (cj t e).1:=fun z hz q1 q2=>by
  rcases abd.1 (h.p.mem_iff.1 hz) with k|k
  ·exact absurd k q1
  ·exact(abd.1 k).resolve_left q2
 have a:=bL h.wf;have inT:∀c∈b5 t,∀z∈c,z∈aq t.1:=fun c hc z hz=>a.p.mem_iff.1 (ade.2 ⟨c,hc,hz⟩);obtain⟨r0,htr,Cq,bI,hcy⟩:=wV h.w hXd;rw[←hX,←hY];obtain⟨P0,c0,S7,cy0,pm0,nd0⟩:=Xq h.wf n0t;constructor
 ·rintro⟨c,hc,k0,k1⟩ oE;have hcc:(e,1)∈(e,0)::P0:=(a.c c hc).same cy0 k0 abp k1;have hP:(e,1)∈P0:=(abd.1 hcc).resolve_left fun q=>n01 q.symm;obtain⟨P,Q,hPQ⟩:=ada hP;subst hPQ;obtain⟨w1,w2⟩:=(jv.two (x:=(e,0)) (a:=P) (y:=(e,1)) (b:=Q)).1 cy0;have all:∀z∈(e,0)::(P++(e,1)::Q),z∈aq t.1:=fun z hz=>inT c0 S7 z (pm0.mem_iff.1 hz);have acU:P≠[]:=fun q=>by subst q;have:ph t (e,0)=(e,1):=w1.1;exact acS Y hYd (in1 _ n0t this).symm
  obtain⟨p,P',rfl,hp⟩:=JR w1 acU;have wP:Path (ph t) (p::P') (e,1):=w1.2;have ndP:=(abv.1 nd0).2;have ahC:=(ac6.1 ndP);have Xr:∀z∈p::P',z∈aq (cj t e).1:=fun z hz=>ind z (all z (by simp at hz ⊢;rcases hz with k|k<;>simp[k])) (fun q=>(abv.1 nd0).1 (q▸abi _ hz)) (fun q=>ahC.2.2 z hz (e,1) abp q);obtain⟨lx,hlx,acV⟩:=ni w2 (by simp);have hlX:lx=X:=in0 lx (all lx (aa1 _ (abg _ hlx))) acV;have hXP:X∉p::P':=fun q=>ahC.2.2 X q lx hlx (by rw[hlX]);obtain⟨ly,hly,acW⟩:=ni wP (by simp);have hlY:ly=Y:=in1 ly (h.sub (Xr ly hly)) acW;have cyP:jv (ph (cj t e)) (p::P'):=by
   refine Path.iA (f:=ph t) (z:=(e,1)) wP (fun q=>?_) (fun u hu q=>dz u (Xr u hu) (fun q2=>hXP ((in0 u (h.sub (Xr u hu)) q2)▸hu)) q) (fun u hu q=>?_)
   ·exact acT _ (Xr _ (adZ q)) rfl
   ·rw[in1 u (h.sub (Xr u hu)) q,dY,hp]
  have hYP:Y∈p::P':=hlY▸hly;rw[htr]at oE;exact hXP (hcy.same cyP oE hYP abp)
 ·intro oE;refine Classical.byContradiction fun ho=>oE ?_;have oC:(e,1)∉(e,0)::P0:=fun q=>ho ⟨c0,S7,pm0.mem_iff.1 abp,pm0.mem_iff.1 q⟩;obtain⟨Q0,c1,XA,cy1,pm1,nd1⟩:=Xq h.wf n1t;have Oa:(e,0)∉(e,1)::Q0:=fun q=>ho ⟨c1,XA,pm1.mem_iff.1 q,pm1.mem_iff.1 abp⟩;have w1:Path (ph t) ((e,0)::P0) (e,0):=cy0;have w2:Path (ph t) ((e,1)::Q0) (e,1):=cy1;have acU:P0≠[]:=fun q=>by subst q;exact ne0 w1.1
  have anD:Q0≠[]:=fun q=>by subst q;exact ne1 w2.1
  obtain⟨p,P,rfl,hp⟩:=JR w1 acU;obtain⟨q,Q,rfl,hq⟩:=JR w2 anD;have wP:Path (ph t) (p::P) (e,0):=w1.2;have wQ:Path (ph t) (q::Q) (e,1):=w2.2;have tP:∀z∈p::P,z∈aq t.1:=fun z hz=>inT c0 S7 z (pm0.mem_iff.1 (aa1 _ hz));have tQ:∀z∈q::Q,z∈aq t.1:=fun z hz=>inT c1 XA z (pm1.mem_iff.1 (aa1 _ hz));have dP:∀z∈p::P,z∈aq (cj t e).1:=fun z hz=>ind z (tP z hz) (fun k=>(abv.1 nd0).1 (k▸hz)) (fun k=>oC (k▸aa1 _ hz));have dQ:∀z∈q::Q,z∈aq (cj t e).1:=fun z hz=>ind z (tQ z hz) (fun k=>Oa (k▸aa1 _ hz)) (fun k=>(abv.1 nd1).1 (k▸hz));obtain⟨lx,hlx,acV⟩:=ni wP (by simp);have hlX:lx=X:=in0 lx (tP lx hlx) acV;obtain⟨ly,hly,acW⟩:=ni wQ (by simp);have hlY:ly=Y:=in1 ly (tQ ly hly) acW;have vP:Path (ph (cj t e)) (p::P) q:=by
   refine Path.iA (f:=ph t) (z:=(e,0)) wP (fun k=>acS _ (dP _ (adZ k)) rfl) (fun u hu k=>dz u (dP u hu) k fun k2=>?_) (fun u hu k=>?_)
   ·have:=cy0.step (aa1 _ hu);rw[k2]at this;exact oC this
   ·rw[in0 u (tP u hu) k,dX,hq]
  have vQ:Path (ph (cj t e)) (q::Q) p:=by
   refine Path.iA (f:=ph t) (z:=(e,1)) wQ (fun k=>acT _ (dQ _ (adZ k)) rfl) (fun u hu k=>dz u (dQ u hu) (fun k2=>?_) k) (fun u hu k=>?_)
   ·have:=cy1.step (aa1 _ hu);rw[k2]at this;exact Oa this
   ·rw[in1 u (tQ u hu) k,dY,hp]
  have cyc:jv (ph (cj t e)) ((p::P)++(q::Q)):=jv.two.2 ⟨vP,vQ⟩;rw[htr];exact cyc.same hcy (abi _ (hlX▸hlx)) abp (abg _ (hlY▸hly))
theorem tU{L:List ae}(hn:L.Nodup)(p:ae→Bool):bB ((bB L).filter p)=bB (L.filter p):=by
 obtain⟨j,hj,he⟩:=mb L;rw[he];unfold kF;rw[List.filter_append];have e:L.filter p=(L.take j).filter p++(L.drop j).filter p:=by rw[←List.filter_append,List.take_append_drop]
 have nd:(L.filter p).Nodup:=hn.filter _;have k:=oq (row:=L.filter p) nd (j:=((L.take j).filter p).length) (by rw[e];simp);rw[←k];congr 1;unfold kF;rw[e,List.drop_left,List.take_left]
theorem ZJ{row A B:List ae}{x q:ae}(hn:row.Nodup)(e:row=A++x::B)(hq:q∉row):gN row x q=bB (A++x::q::B):=by
 have hi:idx x row 0=((A.length:Nat):Int):=yH hn (by rw[e];simp);have hm:(max 0 ((A.length:Nat):Int)).toNat+1=A.length+1:=by omega
 unfold gN;rw[if_neg hq,hi,hm];congr 1;have e2:row=(A++[x])++B:=by rw[e];simp
 have hl:A.length+1=(A++[x]).length:=by simp
 rw[e2,hl,List.take_left,List.drop_left];simp
theorem Qx(u:ID)(a b:List ae)(v:ai):iM u a (iM u b v)=iM u a v:=by
 unfold iM;by_cases h:v.1=u
 ·rw[if_pos h,if_pos h,if_pos h]
 ·rw[if_neg h,if_neg h]
theorem H6{r:List ae}(hn:r.Nodup)(p q:ae):bz (bz r p) q=bz (bz r q) p:=by unfold bz;rw[tU (hn.filter _),tU (hn.filter _),List.filter_filter,List.filter_filter];congr 1;apply List.filter_congr;intro z _;rw[Bool.and_comm]
theorem qR{r:List ae}{p z:ae}:z∈bz r p↔z∈r∧z≠p:=by unfold bz;rw[kq,List.mem_filter];simp
theorem rU{u:ID}{l:List ae}{v:ai}(h:v.1=u):iM u l v=(v.1,(l,v.2.2)):=if_pos h
theorem mi{u:ID}{l:List ae}{v:ai}(h:¬v.1=u):iM u l v=v:=if_neg h
theorem yV{D:ak}(h:Rw D.1){p q:ae}(hp:p∈aq D.1)(hq:q∈aq D.1)(w8:p≠q):av (av D p) q=av (av D q) p:=by
 obtain⟨u,hu,hpu⟩:=aM.1 hp;obtain⟨w,hw,SX⟩:=aM.1 hq;obtain⟨_,r1⟩:=cZ h hp;obtain⟨_,r2⟩:=cZ h hq;have e1:=c9 h hu hpu;have e2:=c9 h hw SX;by_cases k:w.1=u.1
 ·have:=vJ h.s hu hw k;subst this;have m1:(w.1,(bz w.2.1 p,w.2.2))∈(av D p).1:=by rw[e1];exact aca.2 ⟨w,hw,by unfold iM;rw[if_pos rfl]⟩
  have m2:(w.1,(bz w.2.1 q,w.2.2))∈(av D q).1:=by rw[e2];exact aca.2 ⟨w,hw,by unfold iM;rw[if_pos rfl]⟩
  rw[c9 r1 m1 (qR.2 ⟨SX,fun k=>w8 k.symm⟩),c9 r2 m2 (qR.2 ⟨hpu,w8⟩),e1,e2];unfold b8;have c:∀a b c':List ae,(D.1.map (iM w.1 a)).map (iM w.1 b)=D.1.map (iM w.1 b):=fun a b _=>by rw[List.map_map];exact ac2 fun v _=>Qx w.1 b a v
  show(((D.1.map (iM w.1 (bz w.2.1 p))).map (iM w.1 (bz (bz w.2.1 p) q)),D.2):ak)=((D.1.map (iM w.1 (bz w.2.1 q))).map (iM w.1 (bz (bz w.2.1 q) p)),D.2);rw[c _ _ [],c _ _ [],H6 (h.ring hw)]
 ·have m1:w∈(av D p).1:=by rw[e1];exact aca.2 ⟨w,hw,by unfold iM;rw[if_neg k]⟩
  have m2:u∈(av D q).1:=by rw[e2];exact aca.2 ⟨u,hu,by unfold iM;rw[if_neg (fun e=>k e.symm)]⟩
  rw[c9 r1 m1 SX,c9 r2 m2 hpu,e1,e2];unfold b8;show(((D.1.map (iM u.1 _)).map (iM w.1 _),D.2):ak)=((D.1.map (iM w.1 _)).map (iM u.1 _),D.2);have:(D.1.map (iM u.1 (bz u.2.1 p))).map (iM w.1 (bz w.2.1 q))=(D.1.map (iM w.1 (bz w.2.1 q))).map (iM u.1 (bz u.2.1 p)):=by
   rw[List.map_map,List.map_map];refine ac2 fun v _=>?_;show iM w.1 _ (iM u.1 _ v)=iM u.1 _ (iM w.1 _ v);by_cases a:v.1=u.1
   ·have b:¬v.1=w.1:=fun b=>k (b.symm.trans a);rw[rU a,mi (show ¬(v.1,(bz u.2.1 p,v.2.2)).1=w.1 from b),mi b,rU a]
   ·by_cases b:v.1=w.1
    ·rw[mi a,rU b,mi (show ¬(v.1,(bz w.2.1 q,v.2.2)).1=u.1 from a)]
    ·rw[mi a,mi b,mi a]
  rw[this]
structure Lk(d t:ak)(e:ID)(v w:ai)(x y:ae):Prop where
 c:cf t e
 b:cj t e=d
 sx:sg t x=(e,0)
 sy:sg t y=(e,1)
theorem Qy{t:ak}(h:Wf t){x:ae}(hx:x∈aq t.1):bJ t (sg t x)=bJ t x:=by obtain⟨v,hv,j6⟩:=aM.1 hx;rw[jn h.rw hv j6];exact(dq h.rw hv (jT (h.rw.ring hv) j6)).trans (dq h.rw hv j6).symm
variable {d t:ak} {e:ID} {v w:ai} {x y:ae}
theorem Lk.ends(k:Lk d t e v w x y)(h:Wf d)(hv:v∈d.1)(hw:w∈d.1)(hx:x∈v.2.1)(hy:y∈w.2.1):bJ t (e,0)=some v.1∧bJ t (e,1)=some w.1:=by
 have hxd:x∈aq (cj t e).1:=by rw[k.b];exact aM.2 ⟨v,hv,hx⟩
 have Tb:y∈aq (cj t e).1:=by rw[k.b];exact aM.2 ⟨w,hw,hy⟩
 have h1:=Qy k.c.wf (k.c.sub hxd);have h2:=Qy k.c.wf (k.c.sub Tb);rw[k.sx,←k.c.at hxd,k.b]at h1;rw[k.sy,←k.c.at Tb,k.b]at h2;exact⟨h1.trans (dq h.rw hv hx),h2.trans (dq h.rw hw hy)⟩
theorem Lk.apc(k:Lk d t e v w x y)(h:Wf d)(hg:bK d=0)(hv:v∈d.1)(hw:w∈d.1)(hx:x∈v.2.1)(hy:y∈w.2.1)(SU:x≠y):bK t=0↔(ah y∈bw d (ah x)∨¬cI d v.1 w.1):=by
 obtain⟨e1,e2⟩:=k.ends h hv hw hx hy;have hxd:x∈aq (cj t e).1:=by rw[k.b];exact aM.2 ⟨v,hv,hx⟩
 have Tb:y∈aq (cj t e).1:=by rw[k.b];exact aM.2 ⟨w,hw,hy⟩
 have hf:=ZI k.c hxd Tb SU k.sx k.sy;rw[k.b]at hf;obtain⟨R,hr⟩:=qN k.c.wf;have z:=fD k.c.wf hr;have lv:(cj t e).1.length=t.1.length:=by have:=congrArg List.length k.c.ids;simpa using this
 have le:(cj t e).2.length+1=t.2.length:=by have h1:=ll k.c.wf;have h2:=ll k.c.w;have h3:=k.c.p.length_eq;simp at h3;omega
 by_cases ho:Jy t (e,0) (e,1)
 ·have f1:=(k.c.same ho).1;have su:=hf.1 ho;by_cases hc:cI (cj t e) v.1 w.1
  ·have DQ:=k.c.Cc e1 e2 hc hr;have z2:=fD k.c.w DQ;rw[k.b]at z2 hc f1 lv le;have:=z2.1 hg;constructor
   ·intro q;have:=z.1 q;omega
   ·rintro(q|q)
    ·exact absurd q su
    ·exact absurd hc q
  ·obtain⟨R2,DQ,hl⟩:=k.c.P3 e1 e2 hc hr;have z2:=fD k.c.w DQ;rw[k.b]at z2 hc f1 lv le;have:=z2.1 hg;exact⟨fun _=>.inr hc,fun _=>z.2 (by omega)⟩
 ·have f1:=k.c.diff ho;have hc:=k.c.AD e1 e2 ho;have DQ:=k.c.Cc e1 e2 hc hr;have z2:=fD k.c.w DQ;rw[k.b]at z2 f1 lv le;have:=z2.1 hg;have oE:ah y∈bw d (ah x):=Classical.byContradiction fun q=>ho (hf.2 q);exact⟨fun _=>.inl oE,fun _=>z.2 (by omega)⟩
end Go.Vs
namespace Go.Vs
open Go.Proofs
theorem w5{v w:ai}:∀{l:List ai},cd l→w∈l→w.1=v.1→ct v (bE l v.1)=l.map fun z=>if z.1=v.1 then v else z
 |[],_,h,_=>by cases h
 |z::r,hs,hw,he=>by
  have aG:=fun y (hy:y∈r)=>acF hs hy;by_cases hz:z.1=v.1
  ·have hn:∀y∈r,y.1≠v.1:=fun y hy k=>by have:=aG y hy;rw[hz,k,cv]at this;cases this
   have e1:bE (z::r) v.1=r:=by unfold bE;rw[List.filter_cons_of_neg (by simpa using hz)];exact adw.2 fun y hy=>by simpa using hn y hy
   have e2:r.map (fun z=>if z.1=v.1 then v else z)=r:=by
    conv=>rhs;rw[←List.map_id r]
    exact ac2 fun y hy=>if_neg (hn y hy)
   rw[e1,List.map_cons,if_pos hz,e2]
   cases r with
   |nil=>rfl
   |cons y r =>have:=aG y (abp ..);rw[hz]at this;unfold ct;rw[if_pos this]
  ·have mU:w∈r:=(abd.1 hw).resolve_left fun k=>hz (by rw[←k];exact he);have h1:=aG w mU;rw[he]at h1;have e1:bE (z::r) v.1=z::bE r v.1:=by unfold bE;rw[List.filter_cons_of_pos (by simpa using hz)]
   rw[e1,List.map_cons,if_neg hz];have:=w5 hs.of_cons mU he;rw[←this,ct,if_neg (by rw[jR h1];simp)]
theorem w6{v w:an}:∀{l:List an},dx l→w∈l→w.1=v.1→bS v (bF l v.1)=l.map fun z=>if z.1=v.1 then v else z
 |[],_,h,_=>by cases h
 |z::r,hs,hw,he=>by
  have aG:=fun y (hy:y∈r)=>acF hs hy;by_cases hz:z.1=v.1
  ·have hn:∀y∈r,y.1≠v.1:=fun y hy k=>by have:=aG y hy;rw[hz,k,cv]at this;cases this
   have e1:bF (z::r) v.1=r:=by unfold bF;rw[List.filter_cons_of_neg (by simpa using hz)];exact adw.2 fun y hy=>by simpa using hn y hy
   have e2:r.map (fun z=>if z.1=v.1 then v else z)=r:=by
    conv=>rhs;rw[←List.map_id r]
    exact ac2 fun y hy=>if_neg (hn y hy)
   rw[e1,List.map_cons,if_pos hz,e2]
   cases r with
   |nil=>rfl
   |cons y r =>have:=aG y (abp ..);rw[hz]at this;unfold bS;rw[if_pos this]
  ·have mU:w∈r:=(abd.1 hw).resolve_left fun k=>hz (by rw[←k];exact he);have h1:=aG w mU;rw[he]at h1;have e1:bF (z::r) v.1=z::bF r v.1:=by unfold bF;rw[List.filter_cons_of_pos (by simpa using hz)]
   rw[e1,List.map_cons,if_neg hz];have:=w6 hs.of_cons mU he;rw[←this,bS,if_neg (by rw[jR h1];simp)]
theorem FN(v:an){l:List an}(h:aL l v.1=none):aL (bS v l) v.1=some v:=by
 have hm:v∈bS v l:=ky.2 (.inl rfl);have hs:(aL (bS v l) v.1).isSome=true:=by unfold aL;rw[List.find?_isSome];exact⟨v,hm,by simp⟩
 obtain⟨w,hw⟩:=abC.1 hs;rcases ky.1 (k9 hw) with k|k
 ·rw[hw,k]
 ·have:=jm hw;unfold aL at h;exact absurd (List.find?_eq_none.1 h w k) (by simpa using this)
theorem FO(l:List ai)(x:ID):aN (bE l x) x=none:=by unfold aN bE;rw[List.find?_eq_none];intro y hy;have:=(adg.1 hy).2;simpa using this
theorem FP(l:List an)(x:ID):aL (bF l x) x=none:=by unfold aL bF;rw[List.find?_eq_none];intro y hy;have:=(adg.1 hy).2;simpa using this
theorem MH{l:List ai}{v:ai}(h:v∈l):(bE l v.1).length<l.length:=by unfold bE;rw[List.length_filter_lt_length_iff_exists];exact⟨v,h,by simp⟩
theorem MI{l:List an}{v:an}(h:v∈l):(bF l v.1).length<l.length:=by unfold bF;rw[List.length_filter_lt_length_iff_exists];exact⟨v,h,by simp⟩
theorem SH{row:List ae}{q:ae}(hn:row.Nodup)(ht:bB row=row)(hq:q∉row)(z:ae):bz (gN row z q) q=row:=by unfold gN;rw[if_neg hq];generalize (max 0 (idx z row 0)).toNat+1=k;have ndL:(row.take k++q::row.drop k).Nodup:=adj.nodup_iff.2 (by rw[List.take_append_drop];exact abv.2 ⟨hq,hn⟩);unfold bz;rw[tU ndL];have fA:(row.take k).filter (fun z=>decide (z≠q))=row.take k:=adw.2 fun w hw=>decide_eq_true fun e:w=q=>hq (e▸adC hw);have fB:(row.drop k).filter (fun z=>decide (z≠q))=row.drop k:=adw.2 fun w hw=>decide_eq_true fun e:w=q=>hq (e▸adr hw);rw[List.filter_append,fA,List.filter_cons_of_neg (by simp),fB,List.take_append_drop,ht]
def AT(y x z:ae):List ae:=if z=y then[y,x] else[z]
theorem FQ{y x:ae}{l:List ae}(h:y∉l):l.flatMap (AT y x)=l:=by
 have:l.flatMap (AT y x)=l.flatMap fun z=>[z]:=by unfold List.flatMap;congr 1;exact ac2 fun z hz=>if_neg fun e:z=y=>h (e▸hz)
 rw[this,List.flatMap_singleton']
theorem Xs{row:List ae}{y x:ae}(hn:row.Nodup)(hy:y∈row)(hx:x∉row):gN row y x=bB (row.flatMap (AT y x)):=by obtain⟨P,Q,e⟩:=ada hy;rw[ZJ hn e hx];rw[e]at hn;obtain⟨n1,n2,n3⟩:=ac6.1 hn;have yP:y∉P:=fun k=>n3 y k y (abp ..) rfl;have yQ:y∉Q:=(abv.1 n2).1;rw[e,List.flatMap_append,List.flatMap_cons,FQ yP,FQ yQ];unfold AT;rw[if_pos rfl];rfl
theorem ZK(row:List ae)(k:Nat)(y x:ae):∃j,j≤(row.flatMap (AT y x)).length∧(kF row k).flatMap (AT y x)=kF (row.flatMap (AT y x)) j:=by
 refine⟨((row.take k).flatMap (AT y x)).length,?_,?_⟩
 ·conv=>rhs;rw[←List.take_append_drop k row]
  rw[List.flatMap_append,List.length_append];omega
 ·unfold kF;rw[List.flatMap_append];have e:row.flatMap (AT y x)=(row.take k).flatMap (AT y x)++(row.drop k).flatMap (AT y x):=by rw[←List.flatMap_append,List.take_append_drop]
  rw[e,List.drop_left,List.take_left]
theorem SI{row:List ae}{x:ae}(hn:row.Nodup)(ht:bB row=row)(hx:x∈row):gN (bz row x) (if cC row x=x then zD else cC row x) x=row:=by
 obtain⟨A,B,e⟩:=ada hx;have hi:idx x row 0=((A.length:Nat):Int):=yH hn (by rw[e];simp);have nd:=hn;rw[e]at nd;obtain⟨n1,n2,n3⟩:=ac6.1 nd;have xA:x∉A:=fun k=>n3 x k x (abp ..) rfl;have xB:x∉B:=(abv.1 n2).1;have ahF:(A++B).Nodup:=by have:=adj.nodup_iff.1 nd;exact(abv.1 this).2
 have r1:bz row x=bB (A++B):=by
  unfold bz;rw[e,List.filter_append,List.filter_cons_of_neg (by simp)];congr 2
  ·exact adw.2 fun w hw=>decide_eq_true fun k:w=x=>xA (k▸hw)
  ·exact adw.2 fun w hw=>decide_eq_true fun k:w=x=>xB (k▸hw)
 have hlen:row.length=A.length+1+B.length:=by rw[e];simp;omega
 have hp:cC row x=(row[(A.length+(row.length-1))%row.length]?).getD zD:=by unfold cC cT;rw[if_pos hx,hi,Int.toNat_natCast]
 have r2:bB (A++B)=bB (B++A):=by
  have:kF (A++B) A.length=B++A:=by unfold kF;rw[List.drop_left,List.take_left]
  rw[←this];exact(oq ahF (by simp)).symm
 have r3:bB row=bB (x::(B++A)):=by
  have:kF row A.length=x::(B++A):=by unfold kF;rw[e,List.drop_left,List.take_left];rfl
  rw[←this];exact(oq hn (by omega)).symm
 have main:∀C' y,B++A=C'++[y]→cC row x=y→gN (bz row x) (if cC row x=x then zD else cC row x) x=row:=fun C' y hC hy=>by
  have ndC:(C'++[y]).Nodup:=by rw[←hC];exact adk.nodup_iff.1 ahF
  have xC:x∉C'++[y]:=by rw[←hC];simp[xA,xB]
  have bq:¬y=x:=fun k=>xC (by simp[k]);have yC:y∉C':=fun k=>(ac6.1 ndC).2.2 y k y (by simp) rfl;rw[hy,if_neg bq,r1,r2,hC];have ndT:(bB (C'++[y])).Nodup:=(fw _).nodup_iff.2 ndC;rw[Xs ndT (kq.2 (by simp)) (fun k=>xC (kq.1 k))];obtain⟨j,hj,yR⟩:=mb (C'++[y]);rw[yR];obtain⟨j2,hj2,ahG⟩:=ZK (C'++[y]) j y x;have e5:(C'++[y]).flatMap (AT y x)=kF (x::(C'++[y])) 1:=by rw[List.flatMap_append,FQ yC];unfold kF AT;simp
  have ndX:(x::(C'++[y])).Nodup:=abv.2 ⟨xC,ndC⟩;have ndR:(kF (x::(C'++[y])) 1).Nodup:=by
   have:(kF (x::(C'++[y])) 1).Perm (x::(C'++[y])):=by unfold kF;exact adk.trans (List.Perm.of_eq (List.take_append_drop 1 (x::(C'++[y]))))
   exact this.nodup_iff.2 ndX
  rw[e5]at ahG hj2;rw[ahG,oq ndR hj2,oq ndX (by simp),←hC,←r3,ht]
 rcases List.eq_nil_or_concat A with hA|⟨A',y,hA⟩
 ·rcases List.eq_nil_or_concat B with hB|⟨B',y,hB⟩
  ·subst hA;subst hB;have e':row=[x]:=e;have:cC row x=x:=by rw[hp,e'];rfl
   rw[if_pos this,r1];subst e';have e2:bB ([]++[]:List ae)=[]:=by have:=(fw ([]:List ae));exact List.Perm.eq_nil this
   rw[e2];unfold gN;rw[if_neg (by simp)];simpa using ht
  ·subst hA;subst hB;refine main B' y (by simp) ?_;rw[hp,e];have l:([]++x::(B'.concat y):List ae).length=B'.length+2:=by simp
   rw[l];have m:(([]:List ae).length+(B'.length+2-1))%(B'.length+2)=B'.length+1:=by rw[List.length_nil,Nat.zero_add];exact adW (by omega)
   rw[m];simp
 ·subst hA;refine main (B++A') y (by simp) ?_;rw[hp,hlen];have m:((A'.concat y).length+((A'.concat y).length+1+B.length-1))%((A'.concat y).length+1+B.length)=A'.length:=by
   have l:(A'.concat y).length=A'.length+1:=by simp
   rw[l];have:A'.length+1+(A'.length+1+1+B.length-1)=A'.length+(A'.length+1+1+B.length):=by omega
   rw[this,Nat.add_mod_right];exact adW (by omega)
  rw[m,e];simp
theorem JS{l:List ai}(hs:cd l){u:ai}(hu:u∈l)(a:List ae):(l.map (iM u.1 a)).map (iM u.1 u.2.1)=l:=Ff fun w hw=>by
 rw[Qx];unfold iM;by_cases k:w.1=u.1
 ·rw[if_pos k,vJ hs hu hw k]
 ·rw[if_neg k]
theorem BQ{D:ak}(h:Rw D.1){c:ml}{q:ae}{v:ai}(hv:aN D.1 c.1=some v)(ht:bB v.2.1=v.2.1)(hq:q∉aq D.1):av (br D c q) q=D:=by
 have hm:=du hv;have bR:=gj hv;have hqv:q∉v.2.1:=fun k=>hq (aM.2 ⟨v,hm,k⟩);obtain⟨p1,q1⟩:=lD (c:=c) (x:=q) h hv hq;have e:br D c q=b8 D v.1 (gN v.2.1 c.2 q):=by unfold br;rw[←bR,gk h.s hm]
 have Vy:(v.1,(gN v.2.1 c.2 q,v.2.2))∈(br D c q).1:=by rw[e];exact aca.2 ⟨v,hm,rU rfl⟩
 have oE:q∈gN v.2.1 c.2 q:=(Hy c.2 hqv).mem_iff.2 (abp ..);rw[c9 q1 Vy oE,e];show b8 (b8 D v.1 (gN v.2.1 c.2 q)) v.1 (bz (gN v.2.1 c.2 q) q)=D;rw[SH (h.ring hm) ht hqv];exact congrArg (fun l:List ai=>((l,D.2):ak)) (JS h.s hm _)
theorem BR{D:ak}(h:Rw D.1){x:ae}{v:ai}(hv:v∈D.1)(hx:x∈v.2.1)(ht:bB v.2.1=v.2.1)(E:List an) :
  (br ((av D x).1,E) (v.1,if cC v.2.1 x=x then zD else cC v.2.1 x) x).1=D.1:=by
 obtain⟨p1,q1⟩:=cZ h (aM.2 ⟨v,hv,hx⟩);have e:=c9 h hv hx;have Vy:(v.1,(bz v.2.1 x,v.2.2))∈(av D x).1:=by rw[e];exact aca.2 ⟨v,hv,rU rfl⟩
 have hr:aV ((av D x).1,E) v.1=bz v.2.1 x:=gk (d:=((av D x).1,E)) q1.s Vy;unfold br;show((av D x).1).map (iM v.1 (gN (aV ((av D x).1,E) v.1) _ x))=D.1;rw[hr,SI (h.ring hv) ht hx,e];exact JS h.s hv _
theorem yW{l:List ai}(h:Rw l){m y:ae}(hm:m∈aq l)(hy:y∉aq l)(ht:∀v∈l,bB v.2.1=v.2.1)(E F:List an):(az ((az (l,E) m y).1,F) y m).1=l:=by
 obtain⟨p1,q1⟩:=iI (d:=(l,E)) h hm hy;obtain⟨u,hu,SR⟩:=aM.1 hm;have hyu:y∉u.2.1:=fun c=>hy (aM.2 ⟨u,hu,c⟩);have es:=lf (d:=(l,E)) h y hu SR;have anG:y∈dJ u.2.1 m y:=by
  rcases abd.1 ((E3 SR hyu).mem_iff.1 (abp ..)) with c|c
  ·exact absurd (c▸SR) hyu
  ·exact c
 have Vy:(u.1,(dJ u.2.1 m y,u.2.2))∈(az (l,E) m y).1:=by rw[es];exact aca.2 ⟨u,hu,rU rfl⟩
 rw[lf (d:=((az (l,E) m y).1,F)) q1 m Vy anG];show((az (l,E) m y).1).map (iM u.1 (dJ (dJ u.2.1 m y) y m))=l;rw[Sb (h.ring hu) (ht u hu) SR hyu,es];exact JS h.s hu _
def Cd:List aW→StateT→Prop
 |[],_=>True
 |o::r,s=>(hM s o).length=1∧Cd r (bT s o).1
theorem uY{s t:StateT}{o:aW}{r:List aW}(h:bT s o=(t,(0,()))):j5 (o::r) s=j5 r t:=by rw[j5,h,if_neg (by simp)]
theorem JU:∀{a b:List aW} {s t:StateT},j5 a s=(t,(0,()))→j5 (a++b) s=j5 b t
 |[],b,s,t,h=>by have:s=t:=congrArg Prod.fst h;rw[List.nil_append,this]
 |o::r,b,s,t,h=>by
  have h0:(j5 (o::r) s).2.1=0:=by rw[h]
  obtain⟨h1,h2,h3⟩:=go_step h0
  rw[h3]at h;have:j5 (o::(r++b)) s=j5 (r++b) (bT s o).1:=by rw[j5,if_neg (by simp[h1])]
  rw[List.cons_append,this];exact JU h
theorem yX:∀{a b:List aW} {s t:StateT},j5 a s=(t,(0,()))→Cd a s→Cd b t→Cd (a++b) s
 |[],b,s,t,h,_,hb=>by have:s=t:=congrArg Prod.fst h;rw[List.nil_append,this];exact hb
 |o::r,b,s,t,h,ha,hb=>by
  have h0:(j5 (o::r) s).2.1=0:=by rw[h]
  obtain⟨h1,h2,h3⟩:=go_step h0
  rw[h3]at h;exact⟨ha.1,yX h ha.2 hb⟩
theorem w7{s:StateT}{o:aW}(hm:bm o=0):bT s o=if o.1=1 then l8 s o else if o.1=2 then qD s o else if o.1=3 then kK s o else if o.1=4 then wM s o else if o.1=5 then iS s o else if o.1=6 then fU s o else qC s o:=by unfold bT;rw[if_neg (by simp[hm])]
theorem ahH{s:StateT}{o:aW}(hm:bm o=0)(hk:o.1=1):bT s o=l8 s o:=by rw[w7 hm,if_pos hk]
theorem ahI{s:StateT}{o:aW}(hm:bm o=0)(hk:o.1=2):bT s o=qD s o:=by rw[w7 hm,if_neg (by omega),if_pos hk]
theorem ahJ{s:StateT}{o:aW}(hm:bm o=0)(hk:o.1=3):bT s o=kK s o:=by rw[w7 hm,if_neg (by omega),if_neg (by omega),if_pos hk]
theorem ahK{s:StateT}{o:aW}(hm:bm o=0)(hk:o.1=4):bT s o=wM s o:=by rw[w7 hm,if_neg (by omega),if_neg (by omega),if_neg (by omega),if_pos hk]
theorem ahL{s:StateT}{o:aW}(hm:bm o=0)(hk:o.1=5):bT s o=iS s o:=by rw[w7 hm,if_neg (by omega),if_neg (by omega),if_neg (by omega),if_neg (by omega),if_pos hk]
theorem ahM{s:StateT}{o:aW}(hm:bm o=0)(hk:o.1=6):bT s o=fU s o:=by rw[w7 hm,if_neg (by omega),if_neg (by omega),if_neg (by omega),if_neg (by omega),if_neg (by omega),if_pos hk]
theorem acX{s:StateT}{o:aW}(hm:bm o=0)(hk:7≤o.1):bT s o=qC s o:=by rw[w7 hm,if_neg (by omega),if_neg (by omega),if_neg (by omega),if_neg (by omega),if_neg (by omega),if_neg (by omega)]
def MU(oe:Bool)(x:ID)(t:ByteArray)(n:Int)(w:ai):ai:=if oe=false∧w.1=x then(w.1,(w.2.1,(t,n))) else w
def OV(oe:Bool)(x:ID)(t:ByteArray)(n:Int)(w:an):an:=if oe=true∧w.1=x then(w.1,(t,n)) else w
def oz(oe:Bool)(x:ID)(t:ByteArray)(n:Int)(d:ak):ak:=(d.1.map (MU oe x t n),d.2.map (OV oe x t n))
def sG(oe:Bool)(x:ID)(d:ak):Bool:=if oe=true then(aL d.2 x).isSome else(aN d.1 x).isSome
def rW(oe:Bool)(d:ak)(x:ID):ByteArray×Int:=if oe=true then gS d x else fQ d x
theorem JV(oe:Bool)(x:ID)(t:ByteArray)(n:Int)(w:ai):(MU oe x t n w).1=w.1:=by unfold MU;split<;>rfl
theorem JW(oe:Bool)(x:ID)(t:ByteArray)(n:Int)(w:an):(OV oe x t n w).1=w.1:=by unfold OV;split<;>rfl
theorem SJ(oe:Bool)(x:ID)(t:ByteArray)(n:Int):jr (MU oe x t n) (OV oe x t n):=⟨JV oe x t n,fun v=>by unfold MU;split<;>rfl,JW oe x t n⟩
theorem yY{d:ak}(hv:cd d.1)(he:dx d.2)(oe:Bool)(x:ID):oz oe x (rW oe d x).1 (rW oe d x).2 d=d:=by
 unfold oz;have e1:d.1.map (MU oe x (rW oe d x).1 (rW oe d x).2)=d.1:=by
  conv=>rhs;rw[←List.map_id d.1]
  refine ac2 fun w hw=>?_;unfold MU
  split
  ·rename_i k;unfold rW fQ aO;rw[if_neg (by simp[k.1]),←k.2,eW hv hw];rfl
  ·rfl
 have e2:d.2.map (OV oe x (rW oe d x).1 (rW oe d x).2)=d.2:=by
  conv=>rhs;rw[←List.map_id d.2]
  refine ac2 fun w hw=>?_;unfold OV
  split
  ·rename_i k;unfold rW gS cH;rw[if_pos k.1,←k.2,yI he hw];rfl
  ·rfl
 rw[e1,e2]
theorem Qz(oe p:Bool)(x y:ID)(t:ByteArray)(n:Int)(d:ak):sG oe x (oz p y t n d)=sG oe x d:=by
 unfold sG oz;simp only;rw[iH (JV p y t n),Au (JW p y t n)]
 split<;>simp
theorem QA{w:StateT}{d:ak}{oe:Bool}{x:ID}{t0:ByteArray}{n0:Int}(he:w.1=oz oe x t0 n0 d)(hf:sG oe x d=true){p:aW}(hm:bm p=0)(hk:7≤p.1)(hi:au p=x)(ho:cW p=oe) :
  bT w p=((oz oe x (if p.1=7 then gO p else t0) (if p.1=7 then n0 else oN p) d,w.2),(0,())):=by
 have h0:sG oe x w.1=true:=by rw[he,Qz];exact hf
 rw[acX hm hk,wS (by rw[hi,ho];exact h0),he];have e1:((oz oe x t0 n0 d).1.map (fJ p),(oz oe x t0 n0 d).2.map (gL p))=oz oe x (if p.1=7 then gO p else t0) (if p.1=7 then n0 else oN p) d:=by
  unfold oz;simp only;rw[List.map_map,List.map_map];congr 1
  ·refine ac2 fun v hv=>?_;show fJ p (MU oe x t0 n0 v)=_;unfold fJ;rw[JV,hi,ho];unfold MU;by_cases k:oe=false∧v.1=x
   ·rw[if_pos k,if_pos k,if_pos k];split<;>rfl
   ·rw[if_neg k,if_neg k,if_neg k]
  ·refine ac2 fun v hv=>?_;show gL p (OV oe x t0 n0 v)=_;unfold gL;rw[JW,hi,ho];unfold OV;by_cases k:oe=true∧v.1=x
   ·rw[if_pos k,if_pos k,if_pos k];split<;>rfl
   ·rw[if_neg k,if_neg k,if_neg k]
 rw[e1]
theorem SK(d:ak)(o:aW):(rT d o).length=1:=by unfold rT;dsimp only;split<;>rfl
theorem FR(s:StateT){o:aW}(hk:7≤o.1):(hM s o).length=1:=by unfold hM;rw[if_neg (by omega),if_neg (by omega),if_neg (by omega),if_neg (by omega),if_neg (by omega),if_neg (by omega)];exact SK _ _
theorem rX{w:StateT}{d:ak}{oe:Bool}{x:ID}(he:w.1=oz oe x e0 0 d)(hf:sG oe x d=true)(hx:cz x=true){t:ByteArray}{n:Int}(ht:lY t=true)(hn:jZ n=true) :
  j5 (b7 x oe t n) w=((oz oe x t n d,w.2),(0,()))∧Cd (b7 x oe t n) w:=by
 have two:∀{w:StateT} {t:ByteArray},w.1=oz oe x t 0 d→j5 (if n=0 then[] else[Sd x oe n]) w=((oz oe x t n d,w.2),(0,()))∧Cd (if n=0 then[] else[Sd x oe n]) w:=fun {w t} he=>by
  by_cases h:n=0
  ·rw[if_pos h,h,←he];exact⟨rfl,trivial⟩
  ·rw[if_neg h];have:=QA he hf (CO (e:=oe) hx hn) (show(7:Int)≤8 by decide) rfl rfl;exact⟨uY this,FR _ (show(7:Int)≤8 by decide),trivial⟩
 unfold b7;by_cases h:t=e0
 ·rw[if_pos h,h];exact two he
 ·rw[if_neg h];have:=QA he hf (CN (e:=oe) hx ht) (show(7:Int)≤7 by decide) rfl rfl;obtain⟨q1,q2⟩:=two (w:=(oz oe x t 0 d,w.2)) (t:=t) rfl;exact⟨(uY this).trans q1,FR _ (show(7:Int)≤7 by decide),by rw[this];exact q2⟩
theorem mS(x:ID)(oe:Bool):b7 x oe e0 0=[]:=by unfold b7;rw[if_pos rfl,if_pos rfl];rfl
def vN(s:StateT)(o:aW)(u:StateT):Prop:=∃w:StateT,j5 (hM s o) u=(w,(0,()))∧w.1=s.1∧Cd (hM s o) u
theorem uZ{s u w:StateT}{o p:aW}(hi:hM s o=[p])(h:bT u p=(w,(0,())))(hw:w.1=s.1)(hl:(hM u p).length=1):vN s o u:=⟨w,by rw[hi,uY h];rfl,hw,by rw[hi];exact⟨hl,trivial⟩⟩
theorem ahN{s u:StateT}{o:aW}(hs:dN s)(h:(bT s o).2.1=0)(hk:o.1=1)(e:u.1=(bT s o).1.1):vN s o u:=by
 have hm:=jw h;have hi:=rM hm;rw[ahH hm hk]at h e;unfold l8 at h e
 split at h
 ·cases h
 rename_i h1;rw[if_neg h1]at e
 split at h
 ·cases h
 rename_i h2;rw[if_neg h2]at e;have hn:aN s.1.1 (au o)=none:=by
  unfold aO at h1
  cases k:aN s.1.1 (au o) with
  |none=>rfl
  |some v=>rw[k]at h1;exact absurd rfl h1
 have e':u.1=(ct (au o,([],(e0,0))) s.1.1,s.1.2):=e;have hv:aO u.1 (au o)=some (au o,([],(e0,0))):=by rw[e'];exact wN (au o,([],(e0,0))) hn
 have hinv:hM s o=[vG 2 (au o)]:=by unfold hM;rw[if_pos hk]
 have zH:bm (vG 2 (au o))=0:=uX (.inr (.inl rfl)) hi;refine uZ (w:=(s.1,u.2)) hinv ?_ rfl ?_
 ·rw[ahI zH rfl];unfold qD;rw[show aO u.1 (au (vG 2 (au o)))=some (au o,([],(e0,0))) from hv];show(if 0<([]:List ae).length then _ else _)=_;rw[if_neg (by simp)];have:aF u.1 (au o) zI=s.1:=by rw[e'];unfold aF;show(bE (ct (au o,([],(e0,0))) s.1.1) (au o),bF s.1.2 zI)=s.1;rw[kz hs.d.ge];have:=rJ (au o,([],(e0,0))) (l:=s.1.1) hn;exact congrArg (fun l:List ai=>((l,s.1.2):ak)) this
  show((aF u.1 (au o) zI,u.2),_)=_;rw[this]
 ·unfold hM;rw[if_neg (by simp[vG]),if_pos (show(vG 2 (au o)).1=2 from rfl)];have:fQ u.1 (au (vG 2 (au o)))=(e0,0):=by unfold fQ;rw[show aO u.1 (au (vG 2 (au o)))=some (au o,([],(e0,0))) from hv];rfl
  rw[this,mS];rfl
theorem ahO{s u:StateT}{o:aW}(hs:dN s)(h:(bT s o).2.1=0)(hk:o.1=2)(e:u.1=(bT s o).1.1):vN s o u:=by
 have hm:=jw h;have hi:=rM hm;rw[ahI hm hk]at h e;unfold qD at h e
 cases hv:aO s.1 (au o) with
 |none=>rw[hv]at h;cases h
 |some v =>
  rw[hv]at h e;simp only at h e
  split at h
  ·cases h
  rename_i h1;rw[if_neg h1]at e;have hr:v.2.1=[]:=acg (by omega);have E6:=du hv;have LP:=gj hv;have e':u.1=(bE s.1.1 (au o),s.1.2):=by rw[e];show(bE s.1.1 (au o),bF s.1.2 zI)=_;rw[kz hs.d.ge]
  have hinv:hM s o=vG 1 (au o)::b7 (au o) false (fQ s.1 (au o)).1 (fQ s.1 (au o)).2:=by unfold hM;rw[if_neg (by omega),if_pos hk]
  have zH:bm (vG 1 (au o))=0:=uX (.inl rfl) hi;have ta:bT u (vG 1 (au o))=((oz false (au o) e0 0 s.1,u.2),(0,())):=by
   rw[ahH zH rfl];unfold l8;have hn:aO u.1 (au (vG 1 (au o)))=none:=by rw[e'];exact FO _ _
   have aG:¬24≤u.1.1.length:=by rw[e'];have:=MH E6;rw[LP]at this;have:=hs.d.nv;show ¬24≤(bE s.1.1 (au o)).length;omega
   rw[hn,if_neg (by simp),if_neg aG];have:(ct (au o,([],(e0,0))) u.1.1,u.1.2)=oz false (au o) e0 0 s.1:=by
    rw[e'];show(ct (au o,([],(e0,0))) (bE s.1.1 (au o)),s.1.2)=_;have q:=w5 (v:=(au o,([],(e0,0)))) hs.d.sv E6 LP;rw[show ct (au o,([],(e0,0))) (bE s.1.1 (au o))=_ from q];unfold oz;congr 1
    ·refine ac2 fun z hz=>?_;unfold MU;by_cases k:z.1=au o
     ·rw[if_pos k,if_pos ⟨rfl,k⟩,k];have:z=v:=vJ hs.d.sv E6 hz (k.trans LP.symm);rw[this,hr]
     ·rw[if_neg k,if_neg (fun q=>k q.2)]
    ·conv=>lhs;rw[←List.map_id s.1.2]
     refine ac2 fun z hz=>?_;unfold OV;rw[if_neg (by simp)];rfl
   show((((ct (au o,([],(e0,0))) u.1.1,u.1.2):ak),u.2),_)=_;rw[this]
  obtain⟨q1,q2⟩:=qP hs.d (au o);have hf:sG false (au o) s.1=true:=by unfold sG;rw[if_neg (by simp)];show(aO s.1 (au o)).isSome=true;rw[hv];rfl
  obtain⟨g1,g2⟩:=rX (w:=(oz false (au o) e0 0 s.1,u.2)) (oe:=false) rfl hf hi q1 q2;have Xt:oz false (au o) (fQ s.1 (au o)).1 (fQ s.1 (au o)).2 s.1=s.1:=yY hs.d.sv hs.d.se false (au o);refine⟨(s.1,u.2),?_,rfl,?_⟩
  ·rw[hinv,uY ta,g1,Xt]
  ·rw[hinv];exact⟨by unfold hM;rw[if_pos (show(vG 1 (au o)).1=1 from rfl)];rfl,by rw[ta];exact g2⟩
theorem ahP{s u:StateT}{o:aW}(hs:dN s)(h:(bT s o).2.1=0)(hk:o.1=3)(hu:dN u)(e:u.1=(bT s o).1.1):vN s o u:=by
 have hm:=jw h;have hi:=rM hm;rw[ahJ hm hk]at h e;unfold kK at h e
 split at h
 ·cases h
 rename_i h1;rw[if_neg h1]at e
 split at h
 ·cases h
 rename_i h2;rw[if_neg h2]at e
 split at h
 ·cases h
 rename_i h3;rw[if_neg h3]at e
 split at h
 ·cases h
 rename_i h4;rw[if_neg h4]at e
 split at h
 ·cases h
 rename_i h5;rw[if_neg h5]at e;have hn:aL s.1.2 (au o)=none:=by
  unfold cH at h1
  cases k:aL s.1.2 (au o) with
  |none=>rfl
  |some v=>rw[k]at h1;exact absurd rfl h1
 obtain⟨a1,a2⟩:=lk (s:=s) (c:=oA o) (by simpa using h3);obtain⟨b1,b2⟩:=lk (s:=s) (c:=oB o) (by simpa using h4);obtain⟨cb,hcb⟩:∃cb,cb=(if(aO s.1 (oB o).1).isSome=true∧(oB o).2=(au o,0) then oB o else(aR s (oB o)).1):=⟨_,rfl⟩;have hb:cb.1=(oB o).1:=by
  rw[hcb]
  split
  ·rfl
  ·exact b2
 have e':u.1=br (br (s.1.1,bS (au o,(e0,0)) s.1.2) (aR s (oA o)).1 (au o,0)) cb (au o,1):=by rw[e,hcb];rfl
 have N6:Rw ((s.1.1,bS (au o,(e0,0)) s.1.2):ak).1:=hs.d.rw;obtain⟨va,hva⟩:=abC.1 (show(aN s.1.1 (aR s (oA o)).1.1).isSome=true by rw[a2];exact a1);have n0:=hs.d.mP hn 0;have n1:=hs.d.mP hn 1;obtain⟨p1,r1⟩:=lD (c:=(aR s (oA o)).1) (x:=(au o,0)) N6 hva n0;obtain⟨vb,hvb⟩:=abC.1 (tK (x:=cb.1) (y:=(aR s (oA o)).1.1) (gN (aV (s.1.1,bS (au o,(e0,0)) s.1.2) (aR s (oA o)).1.1) (aR s (oA o)).1.2 (au o,0)) (by rw[hb];exact b1));have n1':(au o,1)∉aq (br (s.1.1,bS (au o,(e0,0)) s.1.2) (aR s (oA o)).1 (au o,0)).1:=fun k=>by
  rcases abd.1 (p1.mem_iff.1 k) with k|k
  ·cases k
  ·exact n1 k
 have gv1:∀z∈(br (s.1.1,bS (au o,(e0,0)) s.1.2) (aR s (oA o)).1 (au o,0)).1,GV z:=tJ (d:=(s.1.1,bS (au o,(e0,0)) s.1.2)) hs.d.gv _ _;have q2:=BQ r1 (c:=cb) (q:=(au o,1)) hvb (gv1 vb (du hvb)).t n1';have q1:=BQ (D:=(s.1.1,bS (au o,(e0,0)) s.1.2)) N6 (c:=(aR s (oA o)).1) (q:=(au o,0)) hva (hs.d.gv va (du hva)).t n0;have u5:aL u.1.2 (au o)=some (au o,(e0,0)):=by rw[e'];exact FN (au o,(e0,0)) hn
 have hes:(aL u.1.2 (au o)).isSome=true:=by rw[u5];rfl
 have x0:=hu.d.g9 hes (s:=0) (.inl rfl);have x1:=hu.d.g9 hes (s:=1) (.inr rfl);have hD:av (av u.1 (au o,0)) (au o,1)=(s.1.1,bS (au o,(e0,0)) s.1.2):=by rw[yV hu.d.rw x0 x1 (fun k=>by cases k),e',q2,q1]
 have hinv:hM s o=[vG 4 (au o)]:=by unfold hM;rw[if_neg (by omega),if_neg (by omega),if_pos hk]
 have zH:bm (vG 4 (au o))=0:=uX (.inr (.inr rfl)) hi;refine uZ (w:=(s.1,bN (bN u.2 ((au o,0),dA u.1 (au o,0))) ((au o,1),dA u.1 (au o,1)))) hinv ?_ rfl ?_
 ·rw[ahK zH rfl];unfold wM;rw[if_neg (show ¬(cH u.1 (au (vG 4 (au o)))).isSome=false by show ¬(aL u.1.2 (au o)).isSome=false;rw[hes];simp)];have:aF (av (av u.1 (au o,0)) (au o,1)) zI (au o)=s.1:=by rw[hD];show(bE s.1.1 zI,bF (bS (au o,(e0,0)) s.1.2) (au o))=s.1;rw[lE hs.d.gv];have:=wZ (au o,(e0,0)) (l:=s.1.2) hn;exact congrArg (fun l:List an=>((s.1.1,l):ak)) this
  show((aF (av (av u.1 (au o,0)) (au o,1)) zI (au o),_),_)=_;rw[this];rfl
 ·unfold hM;rw[if_neg (by simp[vG]),if_neg (by simp[vG]),if_neg (by simp[vG]),if_pos (show(vG 4 (au o)).1=4 from rfl)];unfold FL;have:gS u.1 (au (vG 4 (au o)))=(e0,0):=by unfold gS;rw[show cH u.1 (au (vG 4 (au o)))=some (au o,(e0,0)) from u5];rfl
  rw[this,mS];rfl
theorem acY{u:StateT}{y:ae}(h:(bJ u.1 y).isSome=true):resolve u y=y:=by unfold resolve;rw[res,if_pos h]
theorem H7{u:StateT}(h:Rw u.1.1){v:ai}{y:ae}(hv:v∈u.1.1)(hy:y∈v.2.1):aR u (v.1,y)=((v.1,y),(0,())):=by unfold aR;rw[show aO u.1 ((v.1,y):ml).1=some v from eW h.s hv];have hr:resolve u y=y:=acY (by show(EU u.1.1 y).isSome=true;rw[dq h hv hy];rfl);show(((v.1,mN u (v.1,y) v):ml),((0:Int),()))=_;unfold mN;rw[show resolve u ((v.1,y):ml).2=y from hr,if_pos hy]
theorem BS{u:StateT}{v:ai}(hs:cd u.1.1)(hv:v∈u.1.1)(hr:v.2.1=[])(y:ae):aR u (v.1,y)=((v.1,zD),(0,())):=by unfold aR;rw[show aO u.1 ((v.1,y):ml).1=some v from eW hs hv];show(((v.1,mN u (v.1,y) v):ml),((0:Int),()))=_;unfold mN;rw[hr,if_neg (by simp)]
theorem FU{u:StateT}{c:ml}(h:(aN u.1.1 c.1).isSome=true):(aR u c).2.1=0:=by unfold aR aO;obtain⟨v,hv⟩:=abC.1 h;rw[hv]
theorem H8{row:List ae}{x:ae}(hn:row.Nodup)(hx:x∈row)(hp:cC row x=x):bz row x=[]:=by
 have hl:0<row.length:=adn hx;obtain⟨a,h1,h2,_⟩:=eU hx;have ha:=(aa2.1 h2).1;have aG:(a+(row.length-1))%row.length<row.length:=adv _ hl;unfold cC cT at hp;rw[if_pos hx,h1,Int.toNat_natCast,List.getElem?_eq_getElem aG]at hp;have h3:row[(a+(row.length-1))%row.length]? = some x:=by rw[List.getElem?_eq_getElem aG];exact congrArg some hp
 have h4:=nh hn h3 h2;have h5:row.length=1:=by
  by_cases k:a=0
  ·rw[k,Nat.zero_add,Nat.mod_eq_of_lt (by omega)]at h4;omega
  ·have e:a+(row.length-1)=(a-1)+row.length:=by omega
   rw[e,Nat.add_mod_right,Nat.mod_eq_of_lt (by omega)]at h4;omega
 have:=(qG hx hn).length_eq;rw[List.length_cons]at this;exact acg (by omega)
theorem MJ{row:List ae}{q:ae}(ht:bB row=row)(hq:q∉row):bz row q=row:=by unfold bz;have:(row.filter fun e=>decide (e≠q))=row:=adw.2 fun w hw=>decide_eq_true fun e:w=q=>hq (e▸hw);rw[this,ht]
theorem o9{D:ak}(h:Rw D.1){v:ai}(hv:v∈D.1)(ht:bB v.2.1=v.2.1){q:ae}(hq:q∈aq D.1):(v.1,(bz v.2.1 q,v.2.2))∈(av D q).1:=by
 obtain⟨w,hw,SX⟩:=aM.1 hq;rw[c9 h hw SX];by_cases k:v.1=w.1
 ·have:v=w:=vJ h.s hw hv k;subst this;exact aca.2 ⟨v,hv,rU rfl⟩
 ·have hqv:q∉v.2.1:=fun c=>k (congrArg Prod.fst (h.one hw hv SX c));rw[MJ ht hqv];exact aca.2 ⟨v,hv,mi k⟩
theorem Xu{d:ak}(h:Wf d){v:ai}{x:ae}(hv:v∈d.1)(hx:x∈v.2.1)(fe:ae):GD d x fe=(v.1,if cC (bz v.2.1 fe) x=x then zD else cC (bz v.2.1 fe) x):=by
 have ha:bJ d x=some v.1:=dq h.rw hv hx;unfold GD;rw[ha];simp only[Option.getD_some];rw[gk h.sv hv]
 split<;>rfl
theorem ahQ{s u:StateT}{o:aW}(hs:dN s)(hg:bK s.1=0)(h:(bT s o).2.1=0)(hk:o.1=4)(hu:dN u)(e:u.1=(bT s o).1.1):vN s o u:=by
 have hm:=jw h;have hi:=rM hm;have he:(aL s.1.2 (au o)).isSome=true:=H5 h hk;obtain⟨ed,ZL⟩:=abC.1 he;rw[ahK hm hk]at h e;unfold wM at h e;rw[if_neg (by show ¬(aL s.1.2 (au o)).isSome=false;rw[he];simp)]at h e;obtain⟨x0,hx0⟩:∃x0:ae,x0=(au o,0):=⟨_,rfl⟩;obtain⟨x1,J1⟩:∃x1:ae,x1=(au o,1):=⟨_,rfl⟩;have Oa:x0≠x1:=by rw[hx0,J1];exact Y1 _
 have m0:x0∈aq s.1.1:=by rw[hx0];exact hs.d.g9 he (.inl rfl)
 have m1:x1∈aq s.1.1:=by rw[J1];exact hs.d.g9 he (.inr rfl)
 obtain⟨v,hv,Xz⟩:=aM.1 m0;obtain⟨w,hw,Gg⟩:=aM.1 m1;have N6:=hs.d.rw;have tv:=(hs.d.gv v hv).t;have tw:=(hs.d.gv w hw).t;have hc:=yV N6 m0 m1 Oa;obtain⟨p0,r0⟩:=cZ N6 m0;obtain⟨p1,r1⟩:=cZ N6 m1;have m0':x0∈aq (av s.1 x1).1:=(abd.1 (p1.mem_iff.1 m0)).resolve_left Oa;have m1':x1∈aq (av s.1 x0).1:=(abd.1 (p0.mem_iff.1 m1)).resolve_left (fun k=>Oa k.symm);have e':u.1=((av (av s.1 x1) x0).1,bF s.1.2 (au o)):=by rw[e];show(bE (av (av s.1 (au o,0)) (au o,1)).1 zI,bF s.1.2 (au o))=_;rw[←hx0,←J1,lE (iz (iz hs.d.gv x0) x1),hc]
 have hT:u.1.1=(av (av s.1 x1) x0).1:=by rw[e']
 have hT2:u.1.1=(av (av s.1 x0) x1).1:=by rw[hT,hc]
 have v1:(v.1,(bz v.2.1 x1,v.2.2))∈(av s.1 x1).1:=o9 N6 hv tv m1;have v2:(v.1,(bz (bz v.2.1 x1) x0,v.2.2))∈u.1.1:=by rw[hT];exact o9 r1 v1 (uQ _ _) m0'
 have w1:(w.1,(bz w.2.1 x0,w.2.2))∈(av s.1 x0).1:=o9 N6 hw tw m0;have w2:(w.1,(bz (bz w.2.1 x0) x1,w.2.2))∈u.1.1:=by rw[hT2];exact o9 r0 w1 (uQ _ _) m1'
 have v10:x0∈bz v.2.1 x1:=qR.2 ⟨Xz,Oa⟩;have nv1:(bz v.2.1 x1).Nodup:=r1.ring v1;obtain⟨cA,hcA⟩:∃cA,cA=GD s.1 x0 x1:=⟨_,rfl⟩;obtain⟨cB,Y4⟩:∃cB,cB=GD s.1 x1 zD:=⟨_,rfl⟩;have zd:zD∉w.2.1:=fun k=>by obtain⟨f,hf,f1,_⟩:=cO.1 (hs.d.pd.mem_iff.1 (aM.2 ⟨w,hw,k⟩));have:=(hs.d.ge f hf).i;rw[f1]at this;cases this
 have eA:cA=(v.1,if cC (bz v.2.1 x1) x0=x0 then zD else cC (bz v.2.1 x1) x0):=by rw[hcA];exact Xu hs.d hv Xz x1
 have eB:cB=(w.1,if cC w.2.1 x1=x1 then zD else cC w.2.1 x1):=by rw[Y4,Xu hs.d hw Gg zD,MJ tw zd]
 have kA:aR u cA=(cA,(0,())):=by
  rw[eA];by_cases k:cC (bz v.2.1 x1) x0=x0
  ·rw[if_pos k];exact BS (v:=(v.1,(bz (bz v.2.1 x1) x0,v.2.2))) hu.d.sv v2 (H8 nv1 v10 k) zD
  ·rw[if_neg k];exact H7 (v:=(v.1,(bz (bz v.2.1 x1) x0,v.2.2))) hu.d.rw v2 (qR.2 ⟨AS v10,k⟩)
 have fB:(aN u.1.1 cB.1).isSome=true:=by rw[eB];show(aN u.1.1 w.1).isSome=true;have:=eW hu.d.sv w2;rw[show aN u.1.1 w.1=_ from this];rfl
 have kB:(if(aO u.1 cB.1).isSome=true∧cB.2=x0 then cB else(aR u cB).1)=cB:=by
  by_cases k0:(aO u.1 cB.1).isSome=true∧cB.2=x0
  ·rw[if_pos k0]
  ·rw[if_neg k0];have k1:cB.2≠x0:=fun k=>k0 ⟨fB,k⟩;rw[eB]at k1 ⊢;by_cases k:cC w.2.1 x1=x1
   ·rw[if_pos k];have F8:bz (bz w.2.1 x0) x1=[]:=by rw[H6 (N6.ring hw),H8 (N6.ring hw) Gg k];have:=fw ([]:List ae);exact List.Perm.eq_nil this
    rw[BS (v:=(w.1,(bz (bz w.2.1 x0) x1,w.2.2))) hu.d.sv w2 F8 zD]
   ·rw[if_neg k]at k1 ⊢;have:=H7 (v:=(w.1,(bz (bz w.2.1 x0) x1,w.2.2))) hu.d.rw w2 (y:=cC w.2.1 x1) (qR.2 ⟨qR.2 ⟨AS Gg,k1⟩,k⟩);rw[this]
 have fA:(aN u.1.1 cA.1).isSome=true:=by rw[eA];show(aN u.1.1 v.1).isSome=true;have:=eW hu.d.sv v2;rw[show aN u.1.1 v.1=_ from this];rfl
 have hn:aL u.1.2 (au o)=none:=by rw[e'];exact FP _ _
 have aG:¬40≤u.1.2.length:=by rw[e'];have:=MI (k9 ZL);rw[jm ZL]at this;have:=hs.d.ne;show ¬40≤(bF s.1.2 (au o)).length;omega
 have hE:bS (au o,(e0,0)) u.1.2=s.1.2.map (OV true (au o) e0 0):=by
  rw[e'];have q:=w6 (v:=(au o,(e0,0))) hs.d.se (k9 ZL) (jm ZL);refine(show bS (au o,(e0,0)) (bF s.1.2 (au o))=_ from q).trans (ac2 fun z hz=>?_);unfold OV;by_cases k:z.1=au o
  ·rw[if_pos k,if_pos ⟨rfl,k⟩,k]
  ·rw[if_neg k,if_neg (fun q=>k q.2)]
 have hV:s.1.1.map (MU true (au o) e0 0)=s.1.1:=by
  conv=>rhs;rw[←List.map_id s.1.1]
  exact ac2 fun z hz=>if_neg (by simp)
 have hD:br (br (u.1.1,bS (au o,(e0,0)) u.1.2) cA x0) cB x1=oz true (au o) e0 0 s.1:=by
  have a1:=BR r1 v1 v10 (uQ _ _) (bS (au o,(e0,0)) u.1.2);have a2:br (u.1.1,bS (au o,(e0,0)) u.1.2) cA x0=((av s.1 x1).1,bS (au o,(e0,0)) u.1.2):=by rw[eA,hT];exact congrArg (fun l:List ai=>((l,bS (au o,(e0,0)) u.1.2):ak)) a1
  have b1:=BR N6 hw Gg tw (bS (au o,(e0,0)) u.1.2);rw[a2,eB];unfold oz;rw[hV,←hE];exact congrArg (fun l:List ai=>((l,bS (au o,(e0,0)) u.1.2):ak)) b1
 have Lu:Wf (oz true (au o) e0 0 s.1):=by rw[←hD,hx0,J1];exact hu.d.link hi hn aG fA fB
 have vD:bK (oz true (au o) e0 0 s.1)=0:=FJ (SJ true (au o) e0 0) hs.d Lu hg;have hinv:hM s o=mh (au o) cA cB::b7 (au o) true (gS s.1 (au o)).1 (gS s.1 (au o)).2:=by unfold hM FL;rw[if_neg (by omega),if_neg (by omega),if_neg (by omega),if_pos hk,hcA,Y4,hx0,J1]
 have zH:bm (mh (au o) cA cB)=0:=by
  refine H4 hi ?_ ?_
  ·rw[hcA];exact CY hs.d m0 Oa
  ·rw[Y4];exact CY hs.d m1 (fun k=>zd (by rw[←k];exact Gg))
 have hL:gP u (mh (au o) cA cB)=oz true (au o) e0 0 s.1:=by unfold gP;show br (br (u.1.1,bS (au o,(e0,0)) u.1.2) (aR u cA).1 (au o,0)) (if(aO u.1 cB.1).isSome=true∧cB.2=(au o,0) then cB else(aR u cB).1) (au o,1)=_;rw[←hx0,←J1,kB,kA];exact hD
 have ta:bT u (mh (au o) cA cB)=((oz true (au o) e0 0 s.1,u.2),(0,())):=by rw[ahJ zH rfl];unfold kK;rw[if_neg (show ¬(cH u.1 (au (mh (au o) cA cB))).isSome=true by show ¬(aL u.1.2 (au o)).isSome=true;rw[hn];simp),if_neg aG,if_neg (show ¬(aR u (oA (mh (au o) cA cB))).2.1≠0 by show ¬(aR u cA).2.1≠0;rw[FU fA];simp),if_neg (show ¬(aR u (oB (mh (au o) cA cB))).2.1≠0 by show ¬(aR u cB).2.1≠0;rw[FU fB];simp),hL,if_neg (by rw[vD];simp)]
 obtain⟨q1,q2⟩:=qQ hs.d (au o);have hf:sG true (au o) s.1=true:=by unfold sG;rw[if_pos rfl];exact he
 obtain⟨g1,g2⟩:=rX (w:=(oz true (au o) e0 0 s.1,u.2)) (oe:=true) rfl hf hi q1 q2;have Xt:oz true (au o) (gS s.1 (au o)).1 (gS s.1 (au o)).2 s.1=s.1:=yY hs.d.sv hs.d.se true (au o);refine⟨(s.1,u.2),?_,rfl,?_⟩
 ·rw[hinv,uY ta,g1,Xt]
 ·rw[hinv];exact⟨by unfold hM;rw[if_neg (by simp[mh]),if_neg (by simp[mh]),if_pos (show(mh (au o) cA cB).1=3 from rfl)];rfl,by rw[ta];exact g2⟩
theorem ahR{s u:StateT}{o:aW}(hs:dN s)(h:(bT s o).2.1=0)(hk:7≤o.1)(e:u.1=(bT s o).1.1):vN s o u:=by
 have hm:=jw h;have hi:=rM hm;rw[acX hm hk]at h e;have hf:sG (cW o) (au o) s.1=true:=by
  cases k:sG (cW o) (au o) s.1 with
  |true=>rfl
  |false=>rw[Sf k]at h;cases h
 rw[wS hf]at e;obtain⟨q1,q2⟩:=qP hs.d (au o);obtain⟨q3,q4⟩:=qQ hs.d (au o);have hinv:hM s o=rT s.1 o:=by unfold hM;rw[if_neg (by omega),if_neg (by omega),if_neg (by omega),if_neg (by omega),if_neg (by omega),if_neg (by omega)]
 have hun:=MG hm hk s.1;have hV:∀v,aN s.1.1 (au o)=some v→cW o=false→(rW (cW o) s.1 (au o))=v.2.2:=fun v hv ho=>by unfold rW fQ aO;rw[ho,if_neg (by simp),hv];rfl
 have hE:∀v,aL s.1.2 (au o)=some v→cW o=true→(rW (cW o) s.1 (au o))=v.2:=fun v hv ho=>by unfold rW gS cH;rw[ho,if_pos rfl,hv];rfl
 have ZM:lY (rW (cW o) s.1 (au o)).1=true∧jZ (rW (cW o) s.1 (au o)).2=true:=by unfold rW;split;exact⟨q3,q4⟩;exact⟨q1,q2⟩
 have fin:∀p:aW,rT s.1 o=[p]→bm p=0→au p=au o→cW p=cW o→p.1=o.1→gO p=(rW (cW o) s.1 (au o)).1∨o.1≠7→oN p=(rW (cW o) s.1 (au o)).2∨o.1=7→vN s o u:=fun p hp hmp h1 h2 h3 h4 h5=>by
  have hfu:sG (cW p) (au p) u.1=true:=by
   rw[h1,h2,e];unfold sG at hf ⊢;rw[iH (fun v=>(HX o).i v),Au (Jv o)]
   split at hf
   ·rename_i k;rw[if_pos k];simpa using hf
   ·rename_i k;rw[if_neg k];simpa using hf
  have hb:=Wg hs (o:=o) (p:=p) h1.symm h2.symm h3.symm (fun v hv ho=>by
    have:=hV v hv ho;refine⟨fun k=>?_,fun k=>?_⟩
    ·rw[h4.resolve_right (fun q=>q k),this]
    ·rw[h5.resolve_right k,this])
   (fun v hv ho=>by
    have:=hE v hv ho;refine⟨fun k=>?_,fun k=>?_⟩
    ·rw[h4.resolve_right (fun q=>q k),this]
    ·rw[h5.resolve_right k,this])
  refine uZ (w:=(s.1,u.2)) (hinv.trans hp) ?_ rfl (FR _ (by rw[h3];exact hk));rw[acX hmp (by rw[h3];exact hk),wS hfu,e];have:=congrArg Prod.fst hb;exact congrArg (fun d:ak=>(((d,u.2),((0:Int),())):StateT×(Int×Unit))) this
 by_cases h7:o.1=7
 ·rw[if_pos h7]at hun;exact fin _ hun (CN hi ZM.1) rfl rfl h7.symm (.inl rfl) (.inr h7)
 ·rw[if_neg h7]at hun;have:=(kC hm).2;exact fin _ hun (CO hi ZM.2) rfl rfl (show(8:Int)=o.1 by omega) (.inr h7) (.inl rfl)
theorem H9{α:Type}{a:Option α}(h:¬a.isSome=true):a=none:=by
 cases a
 ·rfl
 ·exact absurd rfl h
theorem ahS{s u:StateT}{o:aW}(hs:dN s)(h:(bT s o).2.1=0)(hk:o.1=5)(e:u.1=(bT s o).1.1):vN s o u:=by
 have hm:=jw h;obtain⟨hv,hw,n0,n3⟩:=nc hm hk;rw[ahL hm hk]at h e;unfold iS at h e
 split at h
 ·cases h
 rename_i h1;rw[if_neg h1]at e
 split at h
 ·cases h
 rename_i h2;rw[if_neg h2]at e
 split at h
 ·cases h
 rename_i h3;rw[if_neg h3]at e
 split at h
 ·cases h
 rename_i h4;rw[if_neg h4]at e
 split at h
 ·cases h
 rename_i h5;rw[if_neg h5]at e;have hx:(aL s.1.2 (au o)).isSome=true:=ng h1;have QH:aN s.1.1 (b6 o)=none:=H9 h2;have bq:aL s.1.2 (aj o)=none:=H9 h3;obtain⟨s1,s2⟩:=yG n0 n3;obtain⟨m,em⟩:∃m:ae,m=Jn o:=⟨_,rfl⟩;obtain⟨k,ek⟩:∃k:ae,k=F3 o:=⟨_,rfl⟩;have hm1:m.1=au o:=by rw[em];rfl
 have Ga:k.1=aj o:=by rw[ek];rfl
 have LS:m∈aq s.1.1:=by rw[em];exact hs.d.g9 hx s1
 have Tb:ah k∉aq s.1.1:=by rw[ek];exact hs.d.mP bq _
 have IF:m.1≠k.1:=fun q=>by rw[hm1,Ga]at q;rw[q,bq]at hx;cases hx
 have pJ:k.2=0∨k.2=1:=by rw[ek];exact s2
 obtain⟨T,hT⟩:∃T,T=(az s.1 m (ah k)).1:=⟨_,rfl⟩;have hTv:aN T (b6 o)=none:=by rw[hT];unfold az Vs.b8;rw[iH (pR _ _),QH];rfl
 have e':u.1=(ct (b6 o,(bB [m,k],(e0,0))) T,bS (aj o,(e0,0)) s.1.2):=by rw[e,hT,em,ek];rfl
 have Rf:aO u.1 (b6 o)=some (b6 o,(bB [m,k],(e0,0))):=by rw[e'];exact wN (b6 o,(bB [m,k],(e0,0))) hTv
 have u5:cH u.1 (aj o)=some (aj o,(e0,0)):=by rw[e'];exact FN (aj o,(e0,0)) bq
 have hD:Gz u (cP (b6 o) (aj o)) m k=s.1:=by
  unfold Gz;have a1:aF u.1 (b6 o) zI=(T,bS (aj o,(e0,0)) s.1.2):=by
   rw[e'];unfold aF;have q1:bE (ct (b6 o,(bB [m,k],(e0,0))) T) (b6 o)=T:=rJ (b6 o,(bB [m,k],(e0,0))) hTv;have q2:bF (bS (aj o,(e0,0)) s.1.2) zI=bS (aj o,(e0,0)) s.1.2:=kz (fun f hf=>by
    rcases ky.1 hf with rfl|hf
    ·exact⟨hw,lg,lh⟩
    ·exact hs.d.ge f hf)
   show(bE (ct (b6 o,(bB [m,k],(e0,0))) T) (b6 o),bF (bS (aj o,(e0,0)) s.1.2) zI)=_;rw[q1,q2]
  show aF (az (aF u.1 (b6 o) zI) (ah k) m) zI k.1=s.1;rw[a1,hT,Ga];unfold aF;have b1:=yW (l:=s.1.1) hs.d.rw LS Tb (fun v hv=>(hs.d.gv v hv).t) s.1.2 (bS (aj o,(e0,0)) s.1.2);show(bE (az ((az (s.1.1,s.1.2) m (ah k)).1,bS (aj o,(e0,0)) s.1.2) (ah k) m).1 zI,bF (bS (aj o,(e0,0)) s.1.2) (aj o))=s.1;rw[b1,lE hs.d.gv];have:=wZ (aj o,(e0,0)) (l:=s.1.2) bq;exact congrArg (fun l:List an=>((s.1.1,l):ak)) this
 have hinv:hM s o=[cP (b6 o) (aj o)]:=by unfold hM;rw[if_neg (by omega),if_neg (by omega),if_neg (by omega),if_neg (by omega),if_pos hk];rfl
 have zH:bm (cP (b6 o) (aj o))=0:=ME hv hw;have hl0:fQ u.1 (b6 o)=(e0,0):=by unfold fQ;rw[Rf];rfl
 have hl1:gS u.1 (aj o)=(e0,0):=by unfold gS;rw[u5];rfl
 have ho:bT u (cP (b6 o) (aj o))=((s.1,Hs u.2 m k),(0,())):=by
  rw[ahM zH rfl];unfold fU;rw[show aO u.1 (au (cP (b6 o) (aj o)))=_ from Rf];rcases Fe m k with q|q
  ·show(match bB [m,k] with | [r0,r1]=>dG u (cP (b6 o) (aj o)) r0 r1|_=>(zS,(14,())))=_;rw[q];show dG u (cP (b6 o) (aj o)) m k=_;unfold dG;rw[if_neg IF,if_neg (show ¬m.1=aj (cP (b6 o) (aj o)) from fun c=>IF (c.trans Ga.symm)),if_pos (show k.1=aj (cP (b6 o) (aj o)) from Ga),hD]
  ·show(match bB [m,k] with | [r0,r1]=>dG u (cP (b6 o) (aj o)) r0 r1|_=>(zS,(14,())))=_;rw[q];show dG u (cP (b6 o) (aj o)) k m=_;unfold dG;rw[if_neg (fun c=>IF c.symm),if_pos (show k.1=aj (cP (b6 o) (aj o)) from Ga),hD]
 refine uZ (w:=(s.1,Hs u.2 m k)) hinv ho rfl ?_;unfold hM;rw[if_neg (by simp[cP]),if_neg (by simp[cP]),if_neg (by simp[cP]),if_neg (by simp[cP]),if_neg (by simp[cP]),if_pos (show(cP (b6 o) (aj o)).1=6 from rfl)];rw[show aO u.1 (au (cP (b6 o) (aj o)))=_ from Rf];have len:∀r0 r1,(da u.1 (cP (b6 o) (aj o)) r0 r1).length=1:=fun r0 r1=>by unfold da;show([_]++b7 (b6 o) false (fQ u.1 (b6 o)).1 (fQ u.1 (b6 o)).2++b7 (aj o) true (gS u.1 (aj o)).1 (gS u.1 (aj o)).2).length=1;rw[hl0,hl1,mS,mS];rfl
 rcases Fe m k with q|q
 ·show(match bB [m,k] with | [r0,r1]=>da u.1 (cP (b6 o) (aj o)) r0 r1|_=>[]).length=1;rw[q];exact len m k
 ·show(match bB [m,k] with | [r0,r1]=>da u.1 (cP (b6 o) (aj o)) r0 r1|_=>[]).length=1;rw[q];exact len k m
theorem ZN{p q:Int}(hp:p=0∨p=1)(hq:q=0∨q=1):IntKind.wrap .i64 (1-Int.tmod (1-p+2*q) 2)=p∧IntKind.wrap .i64 (Int.tdiv (1-p+2*q) 2)=q:=by rcases hp with rfl|rfl<;>rcases hq with rfl|rfl<;>exact⟨by decide +kernel,by decide +kernel⟩
theorem SL{r0 r1:ae}(h:r0≠r1):bB [r1,r0]=bB [r0,r1]:=oq (row:=[r0,r1]) (j:=1) (by simp[h]) (by simp)
theorem ahT{s u:StateT}{o:aW}(hs:dN s)(h:(bT s o).2.1=0)(hk:o.1=6)(e:u.1=(bT s o).1.1):vN s o u:=by
 have hm:=jw h;have hi:=rM hm;have ho:=E9 hm hk;obtain⟨v,r0,r1,hv,hr,bq,hor⟩:=AR h hk;rw[ahM hm hk]at h e;have E6:v∈s.1.1:=du hv;have LP:v.1=au o:=gj hv;obtain⟨a,ha⟩:∃a,a=(yU r0 r1 (aj o)).1:=⟨_,rfl⟩;obtain⟨b,hb⟩:∃b,b=(yU r0 r1 (aj o)).2:=⟨_,rfl⟩;have RX:fU s o=((Gz s o a b,Hs s.2 a b),(0,()))∧b.1=aj o∧a.1≠b.1∧((a=r0∧b=r1)∨(a=r1∧b=r0)):=by
  unfold fU;rw[hv];show(match v.2.1 with | [r0,r1]=>dG s o r0 r1|_=>(zS,(14,())))=_∧_;rw[hr];show dG s o r0 r1=_∧_;unfold dG;rw[if_neg bq];by_cases k:r0.1=aj o
  ·have:yU r0 r1 (aj o)=(r1,r0):=if_pos k;rw[if_pos k,ha,hb,this];exact⟨rfl,k,fun q=>bq q.symm,.inr ⟨rfl,rfl⟩⟩
  ·have:yU r0 r1 (aj o)=(r0,r1):=if_neg k;have k1:=hor.resolve_left k;rw[if_neg k,if_pos k1,ha,hb,this];exact⟨rfl,k1,bq,.inl ⟨rfl,rfl⟩⟩
 obtain⟨RX,J0,mI,XJ⟩:=RX;rw[RX]at e;have hpm:v.2.1.Perm [a,b]:=by
  rw[hr];rcases XJ with⟨rfl,rfl⟩|⟨rfl,rfl⟩
  ·exact adE _
  ·exact List.Perm.swap _ _ _
 have hav:a∈v.2.1:=hpm.mem_iff.2 (by simp);have hbv:b∈v.2.1:=hpm.mem_iff.2 (by simp);have had:=aM.2 ⟨v,E6,hav⟩;have hbd:=aM.2 ⟨v,E6,hbv⟩;have sa:=hs.d.side had;have sb:=hs.d.side hbd;have anJ:bB [a,b]=v.2.1:=by
  have Dg:r0≠r1:=fun k=>bq (congrArg Prod.fst k);rw[←(hs.d.gv v E6).t,hr];rcases XJ with⟨rfl,rfl⟩|⟨rfl,rfl⟩
  ·rfl
  ·exact SL Dg
 have Yq:(aL s.1.2 (aj o)).isSome=true:=by obtain⟨f,hf,f1,_⟩:=cO.1 (hs.d.pd.mem_iff.1 hbd);rw[←J0,←f1,yI hs.d.se hf];rfl
 obtain⟨ed,ZL⟩:=abC.1 Yq;obtain⟨fa,hfa,fa1,_⟩:=cO.1 (hs.d.pd.mem_iff.1 had);obtain⟨A,B,f1,f2,f3,f4⟩:=mw hs.d.sv E6;have pd:(aq s.1.1).Perm (v.2.1++aq (bE s.1.1 v.1)):=by
  rw[f3]
  conv=>lhs;rw[f1]
  exact gY A B v
 have nd:=ac6.1 (pd.nodup_iff.1 hs.d.rw.n);have rw0:Rw (bE s.1.1 v.1):=⟨kY hs.d.sv,nd.2.1⟩;have na:a∉aq (bE s.1.1 v.1):=fun q=>nd.2.2 a hav a q rfl;have hy:ah b∈aq (bE s.1.1 v.1):=by
  have q:=pd.mem_iff.1 (hs.d.other hbd);rcases abw.1 q with q|q
  ·have:=hpm.mem_iff.1 q;rcases abd.1 this with c|c
   ·exact absurd (congrArg Prod.fst c).symm mI
   ·have c:=List.mem_singleton.1 c;exact absurd c (ow sb)
  ·exact q
 have gv0:∀w∈bE s.1.1 v.1,GV w:=fun w hw=>hs.d.gv w (adg.1 (show w∈s.1.1.filter _ from hw)).1;have e':u.1=((az (bE s.1.1 v.1,s.1.2) (ah b) a).1,bF s.1.2 (aj o)):=by
  rw[e];show aF (az (aF s.1 (au o) zI) (ah b) a) zI b.1=_;have q:aF s.1 (au o) zI=(bE s.1.1 v.1,s.1.2):=by unfold aF;rw[kz hs.d.ge,LP]
  rw[q,J0];unfold aF;rw[lE (oo (d:=(bE s.1.1 v.1,s.1.2)) gv0 _ _)];rfl
 obtain⟨n,hn⟩:∃n,n=1-a.2+2*b.2:=⟨_,rfl⟩;obtain⟨p,hp⟩:∃p,p=fV a.1 (au o) (aj o) n:=⟨_,rfl⟩;have hinv:hM s o=[p]++b7 (au o) false (fQ s.1 (au o)).1 (fQ s.1 (au o)).2++b7 (aj o) true (gS s.1 (aj o)).1 (gS s.1 (aj o)).2:=by
  unfold hM;rw[if_neg (by omega),if_neg (by omega),if_neg (by omega),if_neg (by omega),if_neg (by omega),if_pos hk,hv];show(match v.2.1 with | [r0,r1]=>da s.1 o r0 r1|_=>[])=_;rw[hr,hp,hn,ha,hb];rfl
 obtain⟨n0,n3⟩:=smN sa sb;have zH:bm p=0:=by rw[hp,hn];exact tT (by rw[←fa1];exact(hs.d.ge fa hfa).i) hi ho n0 n3
 obtain⟨v1,v2⟩:=ZN sa sb;have epM:Jn p=a:=by rw[hp,hn];show((a.1,IntKind.wrap .i64 (1-Int.tmod (1-a.2+2*b.2) 2)):ae)=a;rw[v1]
 have epK:F3 p=b:=by rw[hp,hn];show((aj o,IntKind.wrap .i64 (Int.tdiv (1-a.2+2*b.2) 2)):ae)=b;rw[v2,←J0]
 have hD:Jo u p=oz false (au o) e0 0 (oz true (aj o) e0 0 s.1):=by
  unfold Jo;rw[epM,epK,e'];have q:=yW rw0 hy na (fun w hw=>(gv0 w hw).t) s.1.2 (bF s.1.2 (aj o));show(ct (b6 p,(bB [a,b],(e0,0))) (az ((az (bE s.1.1 v.1,s.1.2) (ah b) a).1,bF s.1.2 (aj o)) a (ah b)).1,bS (aj p,(e0,0)) (bF s.1.2 (aj o)))=_;rw[q,anJ];have e1:b6 p=v.1:=by rw[hp,LP];rfl
  have e2:aj p=aj o:=by rw[hp];rfl
  rw[e1,e2];have q1:=w5 (v:=(v.1,(v.2.1,(e0,0)))) hs.d.sv E6 rfl;have q2:=w6 (v:=(aj o,(e0,0))) hs.d.se (k9 ZL) (jm ZL);rw[show ct (v.1,(v.2.1,(e0,0))) (bE s.1.1 v.1)=_ from q1,show bS (aj o,(e0,0)) (bF s.1.2 (aj o))=_ from q2];unfold oz;simp only;rw[List.map_map,List.map_map];congr 1
  ·refine ac2 fun z hz=>?_;show _=MU false (au o) e0 0 (MU true (aj o) e0 0 z);have:MU true (aj o) e0 0 z=z:=if_neg (by simp);rw[this];unfold MU;by_cases k:z.1=v.1
   ·rw[if_pos k,if_pos ⟨rfl,k.trans LP⟩,vJ hs.d.sv E6 hz k]
   ·rw[if_neg k,if_neg (fun q=>k (q.2.trans LP.symm))]
  ·refine ac2 fun z hz=>?_;show _=OV false (au o) e0 0 (OV true (aj o) e0 0 z);have:∀y,OV false (au o) e0 0 y=y:=fun y=>if_neg (by simp);rw[this];unfold OV;by_cases k:z.1=aj o
   ·rw[if_pos k,if_pos ⟨rfl,k⟩,k]
   ·rw[if_neg k,if_neg (fun q=>k q.2)]
 have ta:bT u p=((oz false (au o) e0 0 (oz true (aj o) e0 0 s.1),u.2),(0,())):=by
  have YV:p.1=5:=by rw[hp];rfl
  rw[ahL zH YV];unfold iS;have c1:(cH u.1 (au p)).isSome=true:=by
   have:fa∈bF s.1.2 (aj o):=adg.2 ⟨hfa,decide_eq_true (fun q=>mI (by rw[←fa1,J0];exact q))⟩;have bR:au p=fa.1:=by rw[hp,fa1];rfl
   rw[bR,e'];show(aL (bF s.1.2 (aj o)) fa.1).isSome=true;rw[yI (rK hs.d.se) this];rfl
  have c2:aO u.1 (b6 p)=none:=by
   have bR:b6 p=v.1:=by rw[hp,LP];rfl
   rw[bR,e'];show aN (az (bE s.1.1 v.1,s.1.2) (ah b) a).1 v.1=none;unfold az Vs.b8;rw[iH (pR _ _),FO];rfl
  have c3:cH u.1 (aj p)=none:=by
   have bR:aj p=aj o:=by rw[hp];rfl
   rw[bR,e'];exact FP _ _
  have c4:¬24≤u.1.1.length:=by rw[e'];show ¬24≤(az (bE s.1.1 v.1,s.1.2) (ah b) a).1.length;unfold az;rw[fK];have:=MH E6;have:=hs.d.nv;show ¬24≤(bE s.1.1 v.1).length;omega
  have c5:¬40≤u.1.2.length:=by rw[e'];have:=MI (k9 ZL);rw[jm ZL]at this;have:=hs.d.ne;show ¬40≤(bF s.1.2 (aj o)).length;omega
  rw[if_neg (by rw[c1];simp),c2,c3,if_neg (by simp),if_neg (by simp),if_neg c4,if_neg c5,hD]
 have ahU:(hM u p).length=1:=by
  unfold hM;have k:p.1=5:=by rw[hp];rfl
  rw[if_neg (by omega),if_neg (by omega),if_neg (by omega),if_neg (by omega),if_pos k];rfl
 obtain⟨q1,q2⟩:=qP hs.d (au o);obtain⟨q3,q4⟩:=qQ hs.d (aj o);have hfE:sG true (aj o) s.1=true:=by unfold sG;rw[if_pos rfl];exact Yq
 have hfV:sG false (au o) (oz true (aj o) e0 0 s.1)=true:=by rw[Qz];unfold sG;rw[if_neg (by simp)];show(aO s.1 (au o)).isSome=true;rw[hv];rfl
 obtain⟨g1,g2⟩:=rX (w:=(oz false (au o) e0 0 (oz true (aj o) e0 0 s.1),u.2)) (oe:=false) rfl hfV hi q1 q2;have acZ:oz false (au o) (fQ s.1 (au o)).1 (fQ s.1 (au o)).2 (oz true (aj o) e0 0 s.1)=oz true (aj o) e0 0 s.1:=by
  have Wh:cd (oz true (aj o) e0 0 s.1).1:=hs.d.sv.map (JV true (aj o) e0 0);have X5:dx (oz true (aj o) e0 0 s.1).2:=hs.d.se.map (JW true (aj o) e0 0);have q:=yY Wh X5 false (au o);have:rW false (oz true (aj o) e0 0 s.1) (au o)=fQ s.1 (au o):=by
   unfold rW fQ aO;rw[if_neg (by simp)];have:(oz true (aj o) e0 0 s.1).1=s.1.1:=by
    show s.1.1.map (MU true (aj o) e0 0)=s.1.1
    conv=>rhs;rw[←List.map_id s.1.1]
    exact ac2 fun z hz=>if_neg (by simp)
   rw[this]
  rw[this]at q;exact q
 rw[acZ]at g1;obtain⟨g3,g4⟩:=rX (w:=(oz true (aj o) e0 0 s.1,u.2)) (oe:=true) rfl hfE ho q3 q4;have ac0:oz true (aj o) (gS s.1 (aj o)).1 (gS s.1 (aj o)).2 s.1=s.1:=yY hs.d.sv hs.d.se true (aj o);rw[ac0]at g3;have g0:j5 [p] u=((oz false (au o) e0 0 (oz true (aj o) e0 0 s.1),u.2),(0,())):=uY ta;have g01:=(JU (b:=b7 (au o) false (fQ s.1 (au o)).1 (fQ s.1 (au o)).2) g0).trans g1;refine⟨(s.1,u.2),?_,rfl,?_⟩
 ·rw[hinv,JU g01,g3]
 ·rw[hinv];exact yX g01 (yX g0 ⟨ahU,trivial⟩ g2) g4
theorem ahV{s u:StateT}{o:aW}(hs:dN s)(hg:bK s.1=0)(h:(bT s o).2.1=0)(hu:dN u)(e:u.1=(bT s o).1.1):vN s o u:=by
 obtain⟨k1,k8⟩:=kC (jw h);by_cases h1:o.1=1;· exact ahN hs h h1 e
 by_cases h2:o.1=2;· exact ahO hs h h2 e
 by_cases h3:o.1=3;· exact ahP hs h h3 hu e
 by_cases h4:o.1=4;· exact ahQ hs hg h h4 hu e
 by_cases h5:o.1=5;· exact ahS hs h h5 e
 by_cases h6:o.1=6;· exact ahT hs h h6 e
 exact ahR hs h (by omega) e
theorem AU:∀(l:List aW) {s u t:StateT} (acc:List aW),dN s→bK s.1=0→j5 l s=(t,(0,()))→dN u→u.1=t.1 → ∃w,dN w∧w.1=s.1∧j5 (oy l s acc) u=j5 acc w∧(Cd acc w→Cd (oy l s acc) u)
 |[],s,u,t,acc,hs,hg,h,hu,e=>⟨u,hu,by
  have q:s=t:=congrArg Prod.fst h;rw[e,q],rfl,fun k=>k⟩
 |o::r,s,u,t,acc,hs,hg,h,hu,e=>by
  have h0:(j5 (o::r) s).2.1=0:=by rw[h]
  obtain⟨h1,h2,h3⟩:=go_step h0
  rw[h3]at h;obtain⟨w,hw,we,wg,wo⟩:=AU r (mR s o++acc) (hs.one o) (Mv hs hg o) h hu e;have hp:mR s o=hM s o:=by unfold mR;rw[if_neg (by simp[h1])]
  obtain⟨z,z1,z2,z3⟩:=ahV hs hg h1 hw we;have hz:dN z:=by have:=dN.go (hM s o) hw;rw[z1]at this;exact this
  rw[hp]at wg wo;refine⟨z,hz,z2,?_,fun k=>?_⟩
  ·show j5 (oy r (bT s o).1 (mR s o++acc)) u=_;rw[hp,wg,JU z1]
  ·show Cd (oy r (bT s o).1 (mR s o++acc)) u;rw[hp];exact wo (yX z1 z3 k)
end Go.Vs
