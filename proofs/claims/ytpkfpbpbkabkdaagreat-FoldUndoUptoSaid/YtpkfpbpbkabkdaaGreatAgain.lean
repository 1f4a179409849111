/- What takes operations back -/
import Derived.Test.YtpkfpbpbkabkdaaGreatBack
set_option linter.unusedVariables false
set_option linter.unusedSimpArgs false
namespace Go.Vs
open Go.Proofs Go.Cy
theorem J4{f:ab→ab}{n z:ab}{P:List ab}(h:Path f (n::P) z)(hP:P≠[]):∃p P',P=p::P'∧f n=p:=by
 cases P with
 |nil=>exact absurd rfl hP
 |cons p P'=>exact⟨p,P',rfl,h.1⟩
theorem XS{d:ak}(h:Wf d){z:ab}(hz:z∈an d.1):∃r c,c∈cg d∧jF (ph d) (z::r)∧(z::r).Perm c∧(z::r).Nodup:=by have a:=bO h;obtain⟨c,hc,hzc⟩:=adA.1 (a.p.mem_iff.2 hz);obtain⟨r,h1,h2⟩:=(a.c c hc).head hzc;refine⟨r,c,hc,h1,h2,h2.nodup_iff.2 ?_⟩;have:=a.p.nodup_iff.2 h.rw.n;obtain⟨p,q,xq⟩:=ady hc;rw[xq]at this;exact(acV.1 ((gE p q c).nodup_iff.1 this)).1
theorem aaj{t:ak}{e:ID}{x y:ab}(h:cm t e)(hx:x∈an (cp t e).1)(hy:y∈an (cp t e).1)(TB:x≠y)(sx:sg t x=(e,0))(sy:sg t y=(e,1)) :
  JK t (e,0) (e,1)↔ag y∉bz (cp t e) (ag x):=by
 obtain⟨X,hX⟩:∃X,X=ag x:=⟨_,rfl⟩;obtain⟨Y,hY⟩:∃Y,Y=ag y:=⟨_,rfl⟩;have hXd:X∈an (cp t e).1:=hX▸h.w.other hx;have hYd:Y∈an (cp t e).1:=hY▸h.w.other hy;have hXt:=h.sub hXd;have hYt:=h.sub hYd;have nd:=h.p.nodup_iff.1 h.wf.rw.n;have n0t:=h.x0;have n1t:=h.x1;have adm:∀z∈an (cp t e).1,z≠(e,0):=fun z hz q=>(abx.1 nd).1 (q▸aa5 _ hz);have adn:∀z∈an (cp t e).1,z≠(e,1):=fun z hz q=>(abx.1 (abx.1 nd).2).1 (q▸hz);have pX:ph t X=(e,0):=by rw[iY hXt,hX,bX (h.w.side hx)];exact sx
 have pY:ph t Y=(e,1):=by rw[iY hYt,hY,bX (h.w.side hy)];exact sy
 have in0:∀z∈an t.1,ph t z=(e,0)→z=X:=fun z hz q=>OG h.wf hz hXt (q.trans pX.symm);have in1:∀z∈an t.1,ph t z=(e,1)→z=Y:=fun z hz q=>OG h.wf hz hYt (q.trans pY.symm);have ne0:ph t (e,0)≠(e,0):=fun q=>adm X hXd (in0 _ n0t q).symm;have ne1:ph t (e,1)≠(e,1):=fun q=>adn Y hYd (in1 _ n1t q).symm;have n01:=Zv e;have dX:ph (cp t e) X=ph t (e,1):=by rw[h.ph hXd];unfold uf;rw[if_pos pX,if_neg ne1]
 have dY:ph (cp t e) Y=ph t (e,0):=by rw[h.ph hYd];unfold uf;rw[if_neg (by rw[pY];exact fun q=>n01 q.symm),if_pos pY,if_neg ne0]
 have dz:∀z∈an (cp t e).1,ph t z≠(e,0)→ph t z≠(e,1)→ph (cp t e) z=ph t z:=fun z hz q1 q2=>by rw[h.ph hz];unfold uf;rw[if_neg q1,if_neg q2]
 have ind:∀z∈an t.1,z≠(e,0)→z≠(e,1)→z∈an (cp t e).1:=fun z hz q1 q2=>by
  rcases abn.1 (h.p.mem_iff.1 hz) with k|k
  ·exact absurd k q1
  ·exact(abn.1 k).resolve_left q2
 have a:=bO h.wf;have inT:∀c∈cg t,∀z∈c,z∈an t.1:=fun c hc z hz=>a.p.mem_iff.1 (adA.2 ⟨c,hc,hz⟩);obtain⟨r0,htr,Cs,bL,hcy⟩:=xg h.w hXd;rw[←hX,←hY];obtain⟨P0,c0,TL,cy0,pm0,nd0⟩:=XS h.wf n0t;constructor
 ·rintro⟨c,hc,k0,k1⟩ oK;have hcc:(e,1)∈(e,0)::P0:=(a.c c hc).same cy0 k0 abu k1;have hP:(e,1)∈P0:=(abn.1 hcc).resolve_left fun q=>n01 q.symm;obtain⟨P,Q,hPQ⟩:=ady hP;subst hPQ;obtain⟨w1,w2⟩:=(jF.two (x:=(e,0)) (a:=P) (y:=(e,1)) (b:=Q)).1 cy0;have all:∀z∈(e,0)::(P++(e,1)::Q),z∈an t.1:=fun z hz=>inT c0 TL z (pm0.mem_iff.1 hz);have ado:P≠[]:=fun q=>by subst q;have:ph t (e,0)=(e,1):=w1.1;exact adm Y hYd (in1 _ n0t this).symm
  obtain⟨p,P',rfl,hp⟩:=J4 w1 ado;have wP:Path (ph t) (p::P') (e,1):=w1.2;have ndP:=(abx.1 nd0).2;have aif:=(acV.1 ndP);have XT:∀z∈p::P',z∈an (cp t e).1:=fun z hz=>ind z (all z (by simp at hz ⊢;rcases hz with k|k<;>simp[k])) (fun q=>(abx.1 nd0).1 (q▸abt _ hz)) (fun q=>aif.2.2 z hz (e,1) abu q);obtain⟨lx,hlx,adp⟩:=ns w2 (by simp);have hlX:lx=X:=in0 lx (all lx (aa5 _ (abo _ hlx))) adp;have hXP:X∉p::P':=fun q=>aif.2.2 X q lx hlx (by rw[hlX]);obtain⟨ly,hly,adq⟩:=ns wP (by simp);have hlY:ly=Y:=in1 ly (h.sub (XT ly hly)) adq;have cyP:jF (ph (cp t e)) (p::P'):=by
   refine Path.iG (f:=ph t) (z:=(e,1)) wP (fun q=>?_) (fun u hu q=>dz u (XT u hu) (fun q2=>hXP ((in0 u (h.sub (XT u hu)) q2)▸hu)) q) (fun u hu q=>?_)
   ·exact adn _ (XT _ (ad3 q)) rfl
   ·rw[in1 u (h.sub (XT u hu)) q,dY,hp]
  have hYP:Y∈p::P':=hlY▸hly;rw[htr]at oK;exact hXP (hcy.same cyP oK hYP abu)
 ·intro oK;refine Classical.byContradiction fun ho=>oK ?_;have oI:(e,1)∉(e,0)::P0:=fun q=>ho ⟨c0,TL,pm0.mem_iff.1 abu,pm0.mem_iff.1 q⟩;obtain⟨Q0,c1,X3,cy1,pm1,nd1⟩:=XS h.wf n1t;have Oz:(e,0)∉(e,1)::Q0:=fun q=>ho ⟨c1,X3,pm1.mem_iff.1 q,pm1.mem_iff.1 abu⟩;have w1:Path (ph t) ((e,0)::P0) (e,0):=cy0;have w2:Path (ph t) ((e,1)::Q0) (e,1):=cy1;have ado:P0≠[]:=fun q=>by subst q;exact ne0 w1.1
  have aoj:Q0≠[]:=fun q=>by subst q;exact ne1 w2.1
  obtain⟨p,P,rfl,hp⟩:=J4 w1 ado;obtain⟨q,Q,rfl,hq⟩:=J4 w2 aoj;have wP:Path (ph t) (p::P) (e,0):=w1.2;have wQ:Path (ph t) (q::Q) (e,1):=w2.2;have tP:∀z∈p::P,z∈an t.1:=fun z hz=>inT c0 TL z (pm0.mem_iff.1 (aa5 _ hz));have tQ:∀z∈q::Q,z∈an t.1:=fun z hz=>inT c1 X3 z (pm1.mem_iff.1 (aa5 _ hz));have dP:∀z∈p::P,z∈an (cp t e).1:=fun z hz=>ind z (tP z hz) (fun k=>(abx.1 nd0).1 (k▸hz)) (fun k=>oI (k▸aa5 _ hz));have dQ:∀z∈q::Q,z∈an (cp t e).1:=fun z hz=>ind z (tQ z hz) (fun k=>Oz (k▸aa5 _ hz)) (fun k=>(abx.1 nd1).1 (k▸hz));obtain⟨lx,hlx,adp⟩:=ns wP (by simp);have hlX:lx=X:=in0 lx (tP lx hlx) adp;obtain⟨ly,hly,adq⟩:=ns wQ (by simp);have hlY:ly=Y:=in1 ly (tQ ly hly) adq;have vP:Path (ph (cp t e)) (p::P) q:=by
   refine Path.iG (f:=ph t) (z:=(e,0)) wP (fun k=>adm _ (dP _ (ad3 k)) rfl) (fun u hu k=>dz u (dP u hu) k fun k2=>?_) (fun u hu k=>?_)
   ·have:=cy0.step (aa5 _ hu);rw[k2]at this;exact oI this
   ·rw[in0 u (tP u hu) k,dX,hq]
  have vQ:Path (ph (cp t e)) (q::Q) p:=by
   refine Path.iG (f:=ph t) (z:=(e,1)) wQ (fun k=>adn _ (dQ _ (ad3 k)) rfl) (fun u hu k=>dz u (dQ u hu) (fun k2=>?_) k) (fun u hu k=>?_)
   ·have:=cy1.step (aa5 _ hu);rw[k2]at this;exact Oz this
   ·rw[in1 u (tQ u hu) k,dY,hp]
  have cyc:jF (ph (cp t e)) ((p::P)++(q::Q)):=jF.two.2 ⟨vP,vQ⟩;rw[htr];exact cyc.same hcy (abt _ (hlX▸hlx)) abu (abo _ (hlY▸hly))
theorem uq{L:List ab}(hn:L.Nodup)(p:ab→Bool):bG ((bG L).filter p)=bG (L.filter p):=by
 obtain⟨j,hj,he⟩:=ml L;rw[he];unfold kK;rw[List.filter_append];have e:L.filter p=(L.take j).filter p++(L.drop j).filter p:=by rw[←List.filter_append,List.take_append_drop]
 have nd:(L.filter p).Nodup:=hn.filter _;have k:=oD (row:=L.filter p) nd (j:=((L.take j).filter p).length) (by rw[e];simp);rw[←k];congr 1;unfold kK;rw[e,List.drop_left,List.take_left]
theorem aak{row A B:List ab}{x q:ab}(hn:row.Nodup)(e:row=A++x::B)(hq:q∉row):gQ row x q=bG (A++x::q::B):=by
 have hi:idx x row 0=((A.length:Nat):Int):=yW hn (by rw[e];simp);have hm:(max 0 ((A.length:Nat):Int)).toNat+1=A.length+1:=by omega
 unfold gQ;rw[if_neg hq,hi,hm];congr 1;have e2:row=(A++[x])++B:=by rw[e];simp
 have hl:A.length+1=(A++[x]).length:=by simp
 rw[e2,hl,List.take_left,List.drop_left];simp
theorem QZ(u:ID)(a b:List ab)(v:ai):iX u a (iX u b v)=iX u a v:=by
 unfold iX;by_cases h:v.1=u
 ·rw[if_pos h,if_pos h,if_pos h]
 ·rw[if_neg h,if_neg h]
theorem Ij{r:List ab}(hn:r.Nodup)(p q:ab):bw (bw r p) q=bw (bw r q) p:=by unfold bw;rw[uq (hn.filter _),uq (hn.filter _),List.filter_filter,List.filter_filter];congr 1;apply List.filter_congr;intro z _;rw[Bool.and_comm]
theorem q7{r:List ab}{p z:ab}:z∈bw r p↔z∈r∧z≠p:=by unfold bw;rw[kz,List.mem_filter];simp
theorem sq{u:ID}{l:List ab}{v:ai}(h:v.1=u):iX u l v=(v.1,(l,v.2.2)):=if_pos h
theorem mu{u:ID}{l:List ab}{v:ai}(h:¬v.1=u):iX u l v=v:=if_neg h
theorem zi{D:ak}(h:Rw D.1){p q:ab}(hp:p∈an D.1)(hq:q∈an D.1)(xq:p≠q):au (au D p) q=au (au D q) p:=by
 obtain⟨u,hu,hpu⟩:=aM.1 hp;obtain⟨w,hw,TE⟩:=aM.1 hq;obtain⟨_,r1⟩:=c9 h hp;obtain⟨_,r2⟩:=c9 h hq;have e1:=db h hu hpu;have e2:=db h hw TE;by_cases k:w.1=u.1
 ·have:=wj h.s hu hw k;subst this;have m1:(w.1,(bw w.2.1 p,w.2.2))∈(au D p).1:=by rw[e1];exact abY.2 ⟨w,hw,by unfold iX;rw[if_pos rfl]⟩
  have m2:(w.1,(bw w.2.1 q,w.2.2))∈(au D q).1:=by rw[e2];exact abY.2 ⟨w,hw,by unfold iX;rw[if_pos rfl]⟩
  rw[db r1 m1 (q7.2 ⟨TE,fun k=>xq k.symm⟩),db r2 m2 (q7.2 ⟨hpu,xq⟩),e1,e2];unfold cj;have c:∀a b c':List ab,(D.1.map (iX w.1 a)).map (iX w.1 b)=D.1.map (iX w.1 b):=fun a b _=>by rw[List.map_map];exact acM fun v _=>QZ w.1 b a v
  show(((D.1.map (iX w.1 (bw w.2.1 p))).map (iX w.1 (bw (bw w.2.1 p) q)),D.2):ak)=((D.1.map (iX w.1 (bw w.2.1 q))).map (iX w.1 (bw (bw w.2.1 q) p)),D.2);rw[c _ _ [],c _ _ [],Ij (h.ring hw)]
 ·have m1:w∈(au D p).1:=by rw[e1];exact abY.2 ⟨w,hw,by unfold iX;rw[if_neg k]⟩
  have m2:u∈(au D q).1:=by rw[e2];exact abY.2 ⟨u,hu,by unfold iX;rw[if_neg (fun e=>k e.symm)]⟩
  rw[db r1 m1 TE,db r2 m2 hpu,e1,e2];unfold cj;show(((D.1.map (iX u.1 _)).map (iX w.1 _),D.2):ak)=((D.1.map (iX w.1 _)).map (iX u.1 _),D.2);have:(D.1.map (iX u.1 (bw u.2.1 p))).map (iX w.1 (bw w.2.1 q))=(D.1.map (iX w.1 (bw w.2.1 q))).map (iX u.1 (bw u.2.1 p)):=by
   rw[List.map_map,List.map_map];refine acM fun v _=>?_;show iX w.1 _ (iX u.1 _ v)=iX u.1 _ (iX w.1 _ v);by_cases a:v.1=u.1
   ·have b:¬v.1=w.1:=fun b=>k (b.symm.trans a);rw[sq a,mu (show ¬(v.1,(bw u.2.1 p,v.2.2)).1=w.1 from b),mu b,sq a]
   ·by_cases b:v.1=w.1
    ·rw[mu a,sq b,mu (show ¬(v.1,(bw w.2.1 q,v.2.2)).1=u.1 from a)]
    ·rw[mu a,mu b,mu a]
  rw[this]
structure Lk(d t:ak)(e:ID)(v w:ai)(x y:ab):Prop where
 c:cm t e
 b:cp t e=d
 sx:sg t x=(e,0)
 sy:sg t y=(e,1)
theorem Ra{t:ak}(h:Wf t){x:ab}(hx:x∈an t.1):bM t (sg t x)=bM t x:=by obtain⟨v,hv,kb⟩:=aM.1 hx;rw[jx h.rw hv kb];exact(du h.rw hv (j6 (h.rw.ring hv) kb)).trans (du h.rw hv kb).symm
variable {d t:ak} {e:ID} {v w:ai} {x y:ab}
theorem Lk.ends(k:Lk d t e v w x y)(h:Wf d)(hv:v∈d.1)(hw:w∈d.1)(hx:x∈v.2.1)(hy:y∈w.2.1):bM t (e,0)=some v.1∧bM t (e,1)=some w.1:=by
 have hxd:x∈an (cp t e).1:=by rw[k.b];exact aM.2 ⟨v,hv,hx⟩
 have TN:y∈an (cp t e).1:=by rw[k.b];exact aM.2 ⟨w,hw,hy⟩
 have h1:=Ra k.c.wf (k.c.sub hxd);have h2:=Ra k.c.wf (k.c.sub TN);rw[k.sx,←k.c.at hxd,k.b]at h1;rw[k.sy,←k.c.at TN,k.b]at h2;exact⟨h1.trans (du h.rw hv hx),h2.trans (du h.rw hw hy)⟩
theorem Lk.apW(k:Lk d t e v w x y)(h:Wf d)(hg:bN d=0)(hv:v∈d.1)(hw:w∈d.1)(hx:x∈v.2.1)(hy:y∈w.2.1)(TB:x≠y):bN t=0↔(ag y∈bz d (ag x)∨¬cJ d v.1 w.1):=by
 obtain⟨e1,e2⟩:=k.ends h hv hw hx hy;have hxd:x∈an (cp t e).1:=by rw[k.b];exact aM.2 ⟨v,hv,hx⟩
 have TN:y∈an (cp t e).1:=by rw[k.b];exact aM.2 ⟨w,hw,hy⟩
 have hf:=aaj k.c hxd TN TB k.sx k.sy;rw[k.b]at hf;obtain⟨R,hr⟩:=qV k.c.wf;have z:=fG k.c.wf hr;have lv:(cp t e).1.length=t.1.length:=by have:=congrArg List.length k.c.ids;simpa using this
 have le:(cp t e).2.length+1=t.2.length:=by have h1:=lA k.c.wf;have h2:=lA k.c.w;have h3:=k.c.p.length_eq;simp at h3;omega
 by_cases ho:JK t (e,0) (e,1)
 ·have f1:=(k.c.same ho).1;have sM:=hf.1 ho;by_cases hc:cJ (cp t e) v.1 w.1
  ·have DU:=k.c.Cf e1 e2 hc hr;have z2:=fG k.c.w DU;rw[k.b]at z2 hc f1 lv le;have:=z2.1 hg;constructor
   ·intro q;have:=z.1 q;omega
   ·rintro(q|q)
    ·exact absurd q sM
    ·exact absurd hc q
  ·obtain⟨R2,DU,hl⟩:=k.c.Qv e1 e2 hc hr;have z2:=fG k.c.w DU;rw[k.b]at z2 hc f1 lv le;have:=z2.1 hg;exact⟨fun _=>.inr hc,fun _=>z.2 (by omega)⟩
 ·have f1:=k.c.diff ho;have hc:=k.c.AJ e1 e2 ho;have DU:=k.c.Cf e1 e2 hc hr;have z2:=fG k.c.w DU;rw[k.b]at z2 f1 lv le;have:=z2.1 hg;have oK:ag y∈bz d (ag x):=Classical.byContradiction fun q=>ho (hf.2 q);exact⟨fun _=>.inl oK,fun _=>z.2 (by omega)⟩
end Go.Vs
namespace Go.Vs
open Go.Proofs
theorem xm{v w:ai}:∀{l:List ai},cq l→w∈l→w.1=v.1→cx v (bF l v.1)=l.map fun z=>if z.1=v.1 then v else z
 |[],_,h,_=>by cases h
 |z::r,hs,hw,he=>by
  have aK:=fun y (hy:y∈r)=>acr hs hy;by_cases hz:z.1=v.1
  ·have hn:∀y∈r,y.1≠v.1:=fun y hy k=>by have:=aK y hy;rw[hz,k,cy]at this;cases this
   have e1:bF (z::r) v.1=r:=by unfold bF;rw[List.filter_cons_of_neg (by simpa using hz)];exact adO.2 fun y hy=>by simpa using hn y hy
   have e2:r.map (fun z=>if z.1=v.1 then v else z)=r:=by
    conv=>rhs;rw[←List.map_id r]
    exact acM fun y hy=>if_neg (hn y hy)
   rw[e1,List.map_cons,if_pos hz,e2]
   cases r with
   |nil=>rfl
   |cons y r =>have:=aK y (abu ..);rw[hz]at this;unfold cx;rw[if_pos this]
  ·have nc:w∈r:=(abn.1 hw).resolve_left fun k=>hz (by rw[←k];exact he);have h1:=aK w nc;rw[he]at h1;have e1:bF (z::r) v.1=z::bF r v.1:=by unfold bF;rw[List.filter_cons_of_pos (by simpa using hz)]
   rw[e1,List.map_cons,if_neg hz];have:=xm hs.of_cons nc he;rw[←this,cx,if_neg (by rw[j4 h1];simp)]
theorem xn{v w:aj}:∀{l:List aj},dA l→w∈l→w.1=v.1→bW v (bH l v.1)=l.map fun z=>if z.1=v.1 then v else z
 |[],_,h,_=>by cases h
 |z::r,hs,hw,he=>by
  have aK:=fun y (hy:y∈r)=>acr hs hy;by_cases hz:z.1=v.1
  ·have hn:∀y∈r,y.1≠v.1:=fun y hy k=>by have:=aK y hy;rw[hz,k,cy]at this;cases this
   have e1:bH (z::r) v.1=r:=by unfold bH;rw[List.filter_cons_of_neg (by simpa using hz)];exact adO.2 fun y hy=>by simpa using hn y hy
   have e2:r.map (fun z=>if z.1=v.1 then v else z)=r:=by
    conv=>rhs;rw[←List.map_id r]
    exact acM fun y hy=>if_neg (hn y hy)
   rw[e1,List.map_cons,if_pos hz,e2]
   cases r with
   |nil=>rfl
   |cons y r =>have:=aK y (abu ..);rw[hz]at this;unfold bW;rw[if_pos this]
  ·have nc:w∈r:=(abn.1 hw).resolve_left fun k=>hz (by rw[←k];exact he);have h1:=aK w nc;rw[he]at h1;have e1:bH (z::r) v.1=z::bH r v.1:=by unfold bH;rw[List.filter_cons_of_pos (by simpa using hz)]
   rw[e1,List.map_cons,if_neg hz];have:=xn hs.of_cons nc he;rw[←this,bW,if_neg (by rw[j4 h1];simp)]
theorem FZ(v:aj){l:List aj}(h:aP l v.1=none):aP (bW v l) v.1=some v:=by
 have hm:v∈bW v l:=kF.2 (.inl rfl);have hs:(aP (bW v l) v.1).isSome=true:=by unfold aP;rw[List.find?_isSome];exact⟨v,hm,by simp⟩
 obtain⟨w,hw⟩:=abM.1 hs;rcases kF.1 (nm hw) with k|k
 ·rw[hw,k]
 ·have:=kG hw;unfold aP at h;exact absurd (List.find?_eq_none.1 h w k) (by simpa using this)
theorem F2(l:List ai)(x:ID):aO (bF l x) x=none:=by unfold aO bF;rw[List.find?_eq_none];intro y hy;have:=(adC.1 hy).2;simpa using this
theorem F3(l:List aj)(x:ID):aP (bH l x) x=none:=by unfold aP bH;rw[List.find?_eq_none];intro y hy;have:=(adC.1 hy).2;simpa using this
theorem MW{l:List ai}{v:ai}(h:v∈l):(bF l v.1).length<l.length:=by unfold bF;rw[List.length_filter_lt_length_iff_exists];exact⟨v,h,by simp⟩
theorem MX{l:List aj}{v:aj}(h:v∈l):(bH l v.1).length<l.length:=by unfold bH;rw[List.length_filter_lt_length_iff_exists];exact⟨v,h,by simp⟩
theorem Tp{row:List ab}{q:ab}(hn:row.Nodup)(ht:bG row=row)(hq:q∉row)(z:ab):bw (gQ row z q) q=row:=by unfold gQ;rw[if_neg hq];generalize (max 0 (idx z row 0)).toNat+1=k;have ndL:(row.take k++q::row.drop k).Nodup:=adE.nodup_iff.2 (by rw[List.take_append_drop];exact abx.2 ⟨hq,hn⟩);unfold bw;rw[uq ndL];have fA:(row.take k).filter (fun z=>decide (z≠q))=row.take k:=adO.2 fun w hw=>decide_eq_true fun e:w=q=>hq (e▸adS hw);have fB:(row.drop k).filter (fun z=>decide (z≠q))=row.drop k:=adO.2 fun w hw=>decide_eq_true fun e:w=q=>hq (e▸adM hw);rw[List.filter_append,fA,List.filter_cons_of_neg (by simp),fB,List.take_append_drop,ht]
def AZ(y x z:ab):List ab:=if z=y then[y,x] else[z]
theorem F4{y x:ab}{l:List ab}(h:y∉l):l.flatMap (AZ y x)=l:=by
 have:l.flatMap (AZ y x)=l.flatMap fun z=>[z]:=by unfold List.flatMap;congr 1;exact acM fun z hz=>if_neg fun e:z=y=>h (e▸hz)
 rw[this,List.flatMap_singleton']
theorem XU{row:List ab}{y x:ab}(hn:row.Nodup)(hy:y∈row)(hx:x∉row):gQ row y x=bG (row.flatMap (AZ y x)):=by obtain⟨P,Q,e⟩:=ady hy;rw[aak hn e hx];rw[e]at hn;obtain⟨n1,n2,n3⟩:=acV.1 hn;have yP:y∉P:=fun k=>n3 y k y (abu ..) rfl;have yQ:y∉Q:=(abx.1 n2).1;rw[e,List.flatMap_append,List.flatMap_cons,F4 yP,F4 yQ];unfold AZ;rw[if_pos rfl];rfl
theorem aal(row:List ab)(k:Nat)(y x:ab):∃j,j≤(row.flatMap (AZ y x)).length∧(kK row k).flatMap (AZ y x)=kK (row.flatMap (AZ y x)) j:=by
 refine⟨((row.take k).flatMap (AZ y x)).length,?_,?_⟩
 ·conv=>rhs;rw[←List.take_append_drop k row]
  rw[List.flatMap_append,List.length_append];omega
 ·unfold kK;rw[List.flatMap_append];have e:row.flatMap (AZ y x)=(row.take k).flatMap (AZ y x)++(row.drop k).flatMap (AZ y x):=by rw[←List.flatMap_append,List.take_append_drop]
  rw[e,List.drop_left,List.take_left]
theorem Tq{row:List ab}{x:ab}(hn:row.Nodup)(ht:bG row=row)(hx:x∈row):gQ (bw row x) (if cr row x=x then zD else cr row x) x=row:=by
 obtain⟨A,B,e⟩:=ady hx;have hi:idx x row 0=((A.length:Nat):Int):=yW hn (by rw[e];simp);have nd:=hn;rw[e]at nd;obtain⟨n1,n2,n3⟩:=acV.1 nd;have xA:x∉A:=fun k=>n3 x k x (abu ..) rfl;have xB:x∉B:=(abx.1 n2).1;have aij:(A++B).Nodup:=by have:=adE.nodup_iff.1 nd;exact(abx.1 this).2
 have r1:bw row x=bG (A++B):=by
  unfold bw;rw[e,List.filter_append,List.filter_cons_of_neg (by simp)];congr 2
  ·exact adO.2 fun w hw=>decide_eq_true fun k:w=x=>xA (k▸hw)
  ·exact adO.2 fun w hw=>decide_eq_true fun k:w=x=>xB (k▸hw)
 have hlen:row.length=A.length+1+B.length:=by rw[e];simp;omega
 have hp:cr row x=(row[(A.length+(row.length-1))%row.length]?).getD zD:=by unfold cr cK;rw[if_pos hx,hi,Int.toNat_natCast]
 have r2:bG (A++B)=bG (B++A):=by
  have:kK (A++B) A.length=B++A:=by unfold kK;rw[List.drop_left,List.take_left]
  rw[←this];exact(oD aij (by simp)).symm
 have r3:bG row=bG (x::(B++A)):=by
  have:kK row A.length=x::(B++A):=by unfold kK;rw[e,List.drop_left,List.take_left];rfl
  rw[←this];exact(oD hn (by omega)).symm
 have main:∀C' y,B++A=C'++[y]→cr row x=y→gQ (bw row x) (if cr row x=x then zD else cr row x) x=row:=fun C' y hC hy=>by
  have ndC:(C'++[y]).Nodup:=by rw[←hC];exact adF.nodup_iff.1 aij
  have xC:x∉C'++[y]:=by rw[←hC];simp[xA,xB]
  have bp:¬y=x:=fun k=>xC (by simp[k]);have yC:y∉C':=fun k=>(acV.1 ndC).2.2 y k y (by simp) rfl;rw[hy,if_neg bp,r1,r2,hC];have ndT:(bG (C'++[y])).Nodup:=(fF _).nodup_iff.2 ndC;rw[XU ndT (kz.2 (by simp)) (fun k=>xC (kz.1 k))];obtain⟨j,hj,hje⟩:=ml (C'++[y]);rw[hje];obtain⟨j2,hj2,aik⟩:=aal (C'++[y]) j y x;have e5:(C'++[y]).flatMap (AZ y x)=kK (x::(C'++[y])) 1:=by rw[List.flatMap_append,F4 yC];unfold kK AZ;simp
  have ndX:(x::(C'++[y])).Nodup:=abx.2 ⟨xC,ndC⟩;have ndR:(kK (x::(C'++[y])) 1).Nodup:=by
   have:(kK (x::(C'++[y])) 1).Perm (x::(C'++[y])):=by unfold kK;exact adF.trans (List.Perm.of_eq (List.take_append_drop 1 (x::(C'++[y]))))
   exact this.nodup_iff.2 ndX
  rw[e5]at aik hj2;rw[aik,oD ndR hj2,oD ndX (by simp),←hC,←r3,ht]
 rcases List.eq_nil_or_concat A with hA|⟨A',y,hA⟩
 ·rcases List.eq_nil_or_concat B with hB|⟨B',y,hB⟩
  ·subst hA;subst hB;have e':row=[x]:=e;have:cr row x=x:=by rw[hp,e'];rfl
   rw[if_pos this,r1];subst e';have e2:bG ([]++[]:List ab)=[]:=by have:=(fF ([]:List ab));exact List.Perm.eq_nil this
   rw[e2];unfold gQ;rw[if_neg (by simp)];simpa using ht
  ·subst hA;subst hB;refine main B' y (by simp) ?_;rw[hp,e];have l:([]++x::(B'.concat y):List ab).length=B'.length+2:=by simp
   rw[l];have m:(([]:List ab).length+(B'.length+2-1))%(B'.length+2)=B'.length+1:=by rw[List.length_nil,Nat.zero_add];exact ad2 (by omega)
   rw[m];simp
 ·subst hA;refine main (B++A') y (by simp) ?_;rw[hp,hlen];have m:((A'.concat y).length+((A'.concat y).length+1+B.length-1))%((A'.concat y).length+1+B.length)=A'.length:=by
   have l:(A'.concat y).length=A'.length+1:=by simp
   rw[l];have:A'.length+1+(A'.length+1+1+B.length-1)=A'.length+(A'.length+1+1+B.length):=by omega
   rw[this,Nat.add_mod_right];exact ad2 (by omega)
  rw[m,e];simp
theorem J5{l:List ai}(hs:cq l){u:ai}(hu:u∈l)(a:List ab):(l.map (iX u.1 a)).map (iX u.1 u.2.1)=l:=Fq fun w hw=>by
 rw[QZ];unfold iX;by_cases k:w.1=u.1
 ·rw[if_pos k,wj hs hu hw k]
 ·rw[if_neg k]
theorem BU{D:ak}(h:Rw D.1){c:lW}{q:ab}{v:ai}(hv:aO D.1 c.1=some v)(ht:bG v.2.1=v.2.1)(hq:q∉an D.1):au (br D c q) q=D:=by
 have hm:=dw hv;have bV:=gk hv;have hqv:q∉v.2.1:=fun k=>hq (aM.2 ⟨v,hm,k⟩);obtain⟨p1,q1⟩:=lJ (c:=c) (x:=q) h hv hq;have e:br D c q=cj D v.1 (gQ v.2.1 c.2 q):=by unfold br;rw[←bV,gm h.s hm]
 have V9:(v.1,(gQ v.2.1 c.2 q,v.2.2))∈(br D c q).1:=by rw[e];exact abY.2 ⟨v,hm,sq rfl⟩
 have oK:q∈gQ v.2.1 c.2 q:=(HN c.2 hqv).mem_iff.2 (abu ..);rw[db q1 V9 oK,e];show cj (cj D v.1 (gQ v.2.1 c.2 q)) v.1 (bw (gQ v.2.1 c.2 q) q)=D;rw[Tp (h.ring hm) ht hqv];exact congrArg (fun l:List ai=>((l,D.2):ak)) (J5 h.s hm _)
theorem BV{D:ak}(h:Rw D.1){x:ab}{v:ai}(hv:v∈D.1)(hx:x∈v.2.1)(ht:bG v.2.1=v.2.1)(E:List aj) :
  (br ((au D x).1,E) (v.1,if cr v.2.1 x=x then zD else cr v.2.1 x) x).1=D.1:=by
 obtain⟨p1,q1⟩:=c9 h (aM.2 ⟨v,hv,hx⟩);have e:=db h hv hx;have V9:(v.1,(bw v.2.1 x,v.2.2))∈(au D x).1:=by rw[e];exact abY.2 ⟨v,hv,sq rfl⟩
 have hr:aW ((au D x).1,E) v.1=bw v.2.1 x:=gm (d:=((au D x).1,E)) q1.s V9;unfold br;show((au D x).1).map (iX v.1 (gQ (aW ((au D x).1,E) v.1) _ x))=D.1;rw[hr,Tq (h.ring hv) ht hx,e];exact J5 h.s hv _
theorem zj{l:List ai}(h:Rw l){m y:ab}(hm:m∈an l)(hy:y∉an l)(ht:∀v∈l,bG v.2.1=v.2.1)(E F:List aj):(az ((az (l,E) m y).1,F) y m).1=l:=by
 obtain⟨p1,q1⟩:=iQ (d:=(l,E)) h hm hy;obtain⟨u,hu,Tz⟩:=aM.1 hm;have hyu:y∉u.2.1:=fun c=>hy (aM.2 ⟨u,hu,c⟩);have es:=ln (d:=(l,E)) h y hu Tz;have aom:y∈dK u.2.1 m y:=by
  rcases abn.1 ((Fc Tz hyu).mem_iff.1 (abu ..)) with c|c
  ·exact absurd (c▸Tz) hyu
  ·exact c
 have V9:(u.1,(dK u.2.1 m y,u.2.2))∈(az (l,E) m y).1:=by rw[es];exact abY.2 ⟨u,hu,sq rfl⟩
 rw[ln (d:=((az (l,E) m y).1,F)) q1 m V9 aom];show((az (l,E) m y).1).map (iX u.1 (dK (dK u.2.1 m y) y m))=l;rw[SP (h.ring hu) (ht u hu) Tz hyu,es];exact J5 h.s hu _
def F5:List aE→StateT→Prop
 |[],_=>True
 |o::r,s=>(ib s o).length=1∧F5 r (bP s o).1
theorem vp{s t:StateT}{o:aE}{r:List aE}(h:bP s o=(t,(0,()))):ji (o::r) s=ji r t:=by rw[ji,h,if_neg (by simp)]
theorem F6:∀{a b:List aE} {s t:StateT},ji a s=(t,(0,()))→ji (a++b) s=ji b t
 |[],b,s,t,h=>by have:s=t:=congrArg Prod.fst h;rw[List.nil_append,this]
 |o::r,b,s,t,h=>by
  have h0:(ji (o::r) s).2.1=0:=by rw[h]
  obtain⟨h1,h2,h3⟩:=go_step h0
  rw[h3]at h;have:ji (o::(r++b)) s=ji (r++b) (bP s o).1:=by rw[ji,if_neg (by simp[h1])]
  rw[List.cons_append,this];exact F6 h
theorem zk:∀{a b:List aE} {s t:StateT},ji a s=(t,(0,()))→F5 a s→F5 b t→F5 (a++b) s
 |[],b,s,t,h,_,hb=>by have:s=t:=congrArg Prod.fst h;rw[List.nil_append,this];exact hb
 |o::r,b,s,t,h,ha,hb=>by
  have h0:(ji (o::r) s).2.1=0:=by rw[h]
  obtain⟨h1,h2,h3⟩:=go_step h0
  rw[h3]at h;exact⟨ha.1,zk h ha.2 hb⟩
theorem xp{s:StateT}{o:aE}(hm:bg o=0):bP s o=if o.1=1 then mh s o else if o.1=2 then qL s o else if o.1=3 then kP s o else if o.1=4 then w8 s o else if o.1=5 then jg s o else if o.1=6 then fX s o else qK s o:=by unfold bP;rw[if_neg (by simp[hm])]
theorem ail{s:StateT}{o:aE}(hm:bg o=0)(hk:o.1=1):bP s o=mh s o:=by rw[xp hm,if_pos hk]
theorem aim{s:StateT}{o:aE}(hm:bg o=0)(hk:o.1=2):bP s o=qL s o:=by rw[xp hm,if_neg (by omega),if_pos hk]
theorem ain{s:StateT}{o:aE}(hm:bg o=0)(hk:o.1=3):bP s o=kP s o:=by rw[xp hm,if_neg (by omega),if_neg (by omega),if_pos hk]
theorem aio{s:StateT}{o:aE}(hm:bg o=0)(hk:o.1=4):bP s o=w8 s o:=by rw[xp hm,if_neg (by omega),if_neg (by omega),if_neg (by omega),if_pos hk]
theorem aip{s:StateT}{o:aE}(hm:bg o=0)(hk:o.1=5):bP s o=jg s o:=by rw[xp hm,if_neg (by omega),if_neg (by omega),if_neg (by omega),if_neg (by omega),if_pos hk]
theorem aiq{s:StateT}{o:aE}(hm:bg o=0)(hk:o.1=6):bP s o=fX s o:=by rw[xp hm,if_neg (by omega),if_neg (by omega),if_neg (by omega),if_neg (by omega),if_neg (by omega),if_pos hk]
theorem adr{s:StateT}{o:aE}(hm:bg o=0)(hk:7≤o.1):bP s o=qK s o:=by rw[xp hm,if_neg (by omega),if_neg (by omega),if_neg (by omega),if_neg (by omega),if_neg (by omega),if_neg (by omega)]
def Nh(oe:Bool)(x:ID)(t:ByteArray)(n:Int)(w:ai):ai:=if oe=false∧w.1=x then(w.1,(w.2.1,(t,n))) else w
def Po(oe:Bool)(x:ID)(t:ByteArray)(n:Int)(w:aj):aj:=if oe=true∧w.1=x then(w.1,(t,n)) else w
def oH(oe:Bool)(x:ID)(t:ByteArray)(n:Int)(d:ak):ak:=(d.1.map (Nh oe x t n),d.2.map (Po oe x t n))
def sR(oe:Bool)(x:ID)(d:ak):Bool:=if oe=true then(aP d.2 x).isSome else(aO d.1 x).isSome
def sr(oe:Bool)(d:ak)(x:ID):ByteArray×Int:=if oe=true then fJ d x else dZ d x
theorem J6(oe:Bool)(x:ID)(t:ByteArray)(n:Int)(w:ai):(Nh oe x t n w).1=w.1:=by unfold Nh;split<;>rfl
theorem J7(oe:Bool)(x:ID)(t:ByteArray)(n:Int)(w:aj):(Po oe x t n w).1=w.1:=by unfold Po;split<;>rfl
theorem Ts(oe:Bool)(x:ID)(t:ByteArray)(n:Int):jA (Nh oe x t n) (Po oe x t n):=⟨J6 oe x t n,fun v=>by unfold Nh;split<;>rfl,J7 oe x t n⟩
theorem zm{d:ak}(hv:cq d.1)(he:dA d.2)(oe:Bool)(x:ID):oH oe x (sr oe d x).1 (sr oe d x).2 d=d:=by
 unfold oH;have e1:d.1.map (Nh oe x (sr oe d x).1 (sr oe d x).2)=d.1:=by
  conv=>rhs;rw[←List.map_id d.1]
  refine acM fun w hw=>?_;unfold Nh
  split
  ·rename_i k;unfold sr dZ aG;rw[if_neg (by simp[k.1]),←k.2,dM hv hw];rfl
  ·rfl
 have e2:d.2.map (Po oe x (sr oe d x).1 (sr oe d x).2)=d.2:=by
  conv=>rhs;rw[←List.map_id d.2]
  refine acM fun w hw=>?_;unfold Po
  split
  ·rename_i k;unfold sr fJ b5;rw[if_pos k.1,←k.2,yX he hw];rfl
  ·rfl
 rw[e1,e2]
theorem Rb(oe p:Bool)(x y:ID)(t:ByteArray)(n:Int)(d:ak):sR oe x (oH p y t n d)=sR oe x d:=by
 unfold sR oH;simp only;rw[iO (J6 p y t n),AA (J7 p y t n)]
 split<;>simp
theorem Rc{w:StateT}{d:ak}{oe:Bool}{x:ID}{t0:ByteArray}{n0:Int}(he:w.1=oH oe x t0 n0 d)(hf:sR oe x d=true){p:aE}(hm:bg p=0)(hk:7≤p.1)(hi:ar p=x)(ho:cQ p=oe) :
  bP w p=((oH oe x (if p.1=7 then gR p else t0) (if p.1=7 then n0 else oN p) d,w.2),(0,())):=by
 have h0:sR oe x w.1=true:=by rw[he,Rb];exact hf
 rw[adr hm hk,xe (by rw[hi,ho];exact h0),he];have e1:((oH oe x t0 n0 d).1.map (fN p),(oH oe x t0 n0 d).2.map (gN p))=oH oe x (if p.1=7 then gR p else t0) (if p.1=7 then n0 else oN p) d:=by
  unfold oH;simp only;rw[List.map_map,List.map_map];congr 1
  ·refine acM fun v hv=>?_;show fN p (Nh oe x t0 n0 v)=_;unfold fN;rw[J6,hi,ho];unfold Nh;by_cases k:oe=false∧v.1=x
   ·rw[if_pos k,if_pos k,if_pos k];split<;>rfl
   ·rw[if_neg k,if_neg k,if_neg k]
  ·refine acM fun v hv=>?_;show gN p (Po oe x t0 n0 v)=_;unfold gN;rw[J7,hi,ho];unfold Po;by_cases k:oe=true∧v.1=x
   ·rw[if_pos k,if_pos k,if_pos k];split<;>rfl
   ·rw[if_neg k,if_neg k,if_neg k]
 rw[e1]
theorem Tt(d:ak)(o:aE):(qd d o).length=1:=by unfold qd;dsimp only;split<;>rfl
theorem F7(s:StateT){o:aE}(hk:7≤o.1):(ib s o).length=1:=by unfold ib;rw[if_neg (by omega),if_neg (by omega),if_neg (by omega),if_neg (by omega),if_neg (by omega),if_neg (by omega)];exact Tt _ _
theorem ss{w:StateT}{d:ak}{oe:Bool}{x:ID}(he:w.1=oH oe x e0 0 d)(hf:sR oe x d=true)(hx:cY x=true){t:ByteArray}{n:Int}(ht:p4 t=true)(hn:mD n=true) :
  ji (bu x oe t n) w=((oH oe x t n d,w.2),(0,()))∧F5 (bu x oe t n) w:=by
 have two:∀{w:StateT} {t:ByteArray},w.1=oH oe x t 0 d→ji (if n=0 then[] else[Qr x oe n]) w=((oH oe x t n d,w.2),(0,()))∧F5 (if n=0 then[] else[Qr x oe n]) w:=fun {w t} he=>by
  by_cases h:n=0
  ·rw[if_pos h,h,←he];exact⟨rfl,trivial⟩
  ·rw[if_neg h];have:=Rc he hf (CR (e:=oe) hx hn) (show(7:Int)≤8 by decide) rfl rfl;exact⟨vp this,F7 _ (show(7:Int)≤8 by decide),trivial⟩
 unfold bu;by_cases h:t=e0
 ·rw[if_pos h,h];exact two he
 ·rw[if_neg h];have:=Rc he hf (CQ (e:=oe) hx ht) (show(7:Int)≤7 by decide) rfl rfl;obtain⟨q1,q2⟩:=two (w:=(oH oe x t 0 d,w.2)) (t:=t) rfl;exact⟨(vp this).trans q1,F7 _ (show(7:Int)≤7 by decide),by rw[this];exact q2⟩
theorem mY(x:ID)(oe:Bool):bu x oe e0 0=[]:=by unfold bu;rw[if_pos rfl,if_pos rfl];rfl
def wu(s:StateT)(o:aE)(u:StateT):Prop:=∃w:StateT,ji (ib s o) u=(w,(0,()))∧w.1=s.1∧F5 (ib s o) u
theorem vq{s u w:StateT}{o p:aE}(hi:ib s o=[p])(h:bP u p=(w,(0,())))(hw:w.1=s.1)(hl:(ib u p).length=1):wu s o u:=⟨w,by rw[hi,vp h];rfl,hw,by rw[hi];exact⟨hl,trivial⟩⟩
theorem air{s u:StateT}{o:aE}(hs:cS s)(h:(bP s o).2.1=0)(hk:o.1=1)(e:u.1=(bP s o).1.1):wu s o u:=by
 have hm:=iU h;have hi:=rY hm;rw[ail hm hk]at h e;unfold mh at h e
 split at h
 ·cases h
 rename_i h1;rw[if_neg h1]at e
 split at h
 ·cases h
 rename_i h2;rw[if_neg h2]at e;have hn:aO s.1.1 (ar o)=none:=by
  unfold aG at h1
  cases k:aO s.1.1 (ar o) with
  |none=>rfl
  |some v=>rw[k]at h1;exact absurd rfl h1
 have e':u.1=(cx (ar o,([],(e0,0))) s.1.1,s.1.2):=e;have hv:aG u.1 (ar o)=some (ar o,([],(e0,0))):=by rw[e'];exact w9 (ar o,([],(e0,0))) hn
 have hinv:ib s o=[p7 2 (ar o)]:=by unfold ib;rw[if_pos hk]
 have Ct:bg (p7 2 (ar o))=0:=vn (.inr (.inl rfl)) hi;refine vq (w:=(s.1,u.2)) hinv ?_ rfl ?_
 ·rw[aim Ct rfl];unfold qL;rw[show aG u.1 (ar (p7 2 (ar o)))=some (ar o,([],(e0,0))) from hv];show(if 0<([]:List ab).length then _ else _)=_;rw[if_neg (by simp)];have:aH u.1 (ar o) zI=s.1:=by rw[e'];unfold aH;show(bF (cx (ar o,([],(e0,0))) s.1.1) (ar o),bH s.1.2 zI)=s.1;rw[kH hs.d.ge];have:=rW (ar o,([],(e0,0))) (l:=s.1.1) hn;exact congrArg (fun l:List ai=>((l,s.1.2):ak)) this
  show((aH u.1 (ar o) zI,u.2),_)=_;rw[this]
 ·unfold ib;rw[if_neg (by simp[p7]),if_pos (show(p7 2 (ar o)).1=2 from rfl)];have:dZ u.1 (ar (p7 2 (ar o)))=(e0,0):=by unfold dZ;rw[show aG u.1 (ar (p7 2 (ar o)))=some (ar o,([],(e0,0))) from hv];rfl
  rw[this,mY];rfl
theorem ais{s u:StateT}{o:aE}(hs:cS s)(h:(bP s o).2.1=0)(hk:o.1=2)(e:u.1=(bP s o).1.1):wu s o u:=by
 have hm:=iU h;have hi:=rY hm;rw[aim hm hk]at h e;unfold qL at h e
 cases hv:aG s.1 (ar o) with
 |none=>rw[hv]at h;cases h
 |some v =>
  rw[hv]at h e;simp only at h e
  split at h
  ·cases h
  rename_i h1;rw[if_neg h1]at e;have hr:v.2.1=[]:=abU (by omega);have Ce:=dw hv;have Mb:=gk hv;have e':u.1=(bF s.1.1 (ar o),s.1.2):=by rw[e];show(bF s.1.1 (ar o),bH s.1.2 zI)=_;rw[kH hs.d.ge]
  have hinv:ib s o=p7 1 (ar o)::bu (ar o) false (dZ s.1 (ar o)).1 (dZ s.1 (ar o)).2:=by unfold ib;rw[if_neg (by omega),if_pos hk]
  have Ct:bg (p7 1 (ar o))=0:=vn (.inl rfl) hi;have tp:bP u (p7 1 (ar o))=((oH false (ar o) e0 0 s.1,u.2),(0,())):=by
   rw[ail Ct rfl];unfold mh;have hn:aG u.1 (ar (p7 1 (ar o)))=none:=by rw[e'];exact F2 _ _
   have aK:¬24≤u.1.1.length:=by rw[e'];have:=MW Ce;rw[Mb]at this;have:=hs.d.nv;show ¬24≤(bF s.1.1 (ar o)).length;omega
   rw[hn,if_neg (by simp),if_neg aK];have:(cx (ar o,([],(e0,0))) u.1.1,u.1.2)=oH false (ar o) e0 0 s.1:=by
    rw[e'];show(cx (ar o,([],(e0,0))) (bF s.1.1 (ar o)),s.1.2)=_;have q:=xm (v:=(ar o,([],(e0,0)))) hs.d.sv Ce Mb;rw[show cx (ar o,([],(e0,0))) (bF s.1.1 (ar o))=_ from q];unfold oH;congr 1
    ·refine acM fun z hz=>?_;unfold Nh;by_cases k:z.1=ar o
     ·rw[if_pos k,if_pos ⟨rfl,k⟩,k];have:z=v:=wj hs.d.sv Ce hz (k.trans Mb.symm);rw[this,hr]
     ·rw[if_neg k,if_neg (fun q=>k q.2)]
    ·conv=>lhs;rw[←List.map_id s.1.2]
     refine acM fun z hz=>?_;unfold Po;rw[if_neg (by simp)];rfl
   show((((cx (ar o,([],(e0,0))) u.1.1,u.1.2):ak),u.2),_)=_;rw[this]
  obtain⟨q1,q2⟩:=qZ hs.d (ar o);have hf:sR false (ar o) s.1=true:=by unfold sR;rw[if_neg (by simp)];show(aG s.1 (ar o)).isSome=true;rw[hv];rfl
  obtain⟨g1,g2⟩:=ss (w:=(oH false (ar o) e0 0 s.1,u.2)) (oe:=false) rfl hf hi q1 q2;have XV:oH false (ar o) (dZ s.1 (ar o)).1 (dZ s.1 (ar o)).2 s.1=s.1:=zm hs.d.sv hs.d.se false (ar o);refine⟨(s.1,u.2),?_,rfl,?_⟩
  ·rw[hinv,vp tp,g1,XV]
  ·rw[hinv];exact⟨by unfold ib;rw[if_pos (show(p7 1 (ar o)).1=1 from rfl)];rfl,by rw[tp];exact g2⟩
theorem ait{s u:StateT}{o:aE}(hs:cS s)(h:(bP s o).2.1=0)(hk:o.1=3)(hu:cS u)(e:u.1=(bP s o).1.1):wu s o u:=by
 have hm:=iU h;have hi:=rY hm;rw[ain hm hk]at h e;unfold kP at h e
 split at h
 ·cases h
 rename_i h1;rw[if_neg h1]at e
 split at h
 ·cases h
 rename_i h2;rw[if_neg h2]at e
 split at h
 ·cases h
 rename_i h3;rw[if_neg h3]at e
 split at h
 ·cases h
 rename_i h4;rw[if_neg h4]at e
 split at h
 ·cases h
 rename_i h5;rw[if_neg h5]at e;have hn:aP s.1.2 (ar o)=none:=by
  unfold b5 at h1
  cases k:aP s.1.2 (ar o) with
  |none=>rfl
  |some v=>rw[k]at h1;exact absurd rfl h1
 obtain⟨a1,a2⟩:=lz (s:=s) (c:=oA o) (by simpa using h3);obtain⟨b1,b2⟩:=lz (s:=s) (c:=oB o) (by simpa using h4);obtain⟨cb,hcb⟩:∃cb,cb=(if(aG s.1 (oB o).1).isSome=true∧(oB o).2=(ar o,0) then oB o else(aU s (oB o)).1):=⟨_,rfl⟩;have hb:cb.1=(oB o).1:=by
  rw[hcb]
  split
  ·rfl
  ·exact b2
 have e':u.1=br (br (s.1.1,bW (ar o,(e0,0)) s.1.2) (aU s (oA o)).1 (ar o,0)) cb (ar o,1):=by rw[e,hcb];rfl
 have SL:Rw ((s.1.1,bW (ar o,(e0,0)) s.1.2):ak).1:=hs.d.rw;obtain⟨va,hva⟩:=abM.1 (show(aO s.1.1 (aU s (oA o)).1.1).isSome=true by rw[a2];exact a1);have n0:=hs.d.mV hn 0;have n1:=hs.d.mV hn 1;obtain⟨p1,r1⟩:=lJ (c:=(aU s (oA o)).1) (x:=(ar o,0)) SL hva n0;obtain⟨vb,hvb⟩:=abM.1 (ud (x:=cb.1) (y:=(aU s (oA o)).1.1) (gQ (aW (s.1.1,bW (ar o,(e0,0)) s.1.2) (aU s (oA o)).1.1) (aU s (oA o)).1.2 (ar o,0)) (by rw[hb];exact b1));have n1':(ar o,1)∉an (br (s.1.1,bW (ar o,(e0,0)) s.1.2) (aU s (oA o)).1 (ar o,0)).1:=fun k=>by
  rcases abn.1 (p1.mem_iff.1 k) with k|k
  ·cases k
  ·exact n1 k
 have gv1:∀z∈(br (s.1.1,bW (ar o,(e0,0)) s.1.2) (aU s (oA o)).1 (ar o,0)).1,GV z:=uc (d:=(s.1.1,bW (ar o,(e0,0)) s.1.2)) hs.d.gv _ _;have q2:=BU r1 (c:=cb) (q:=(ar o,1)) hvb (gv1 vb (dw hvb)).t n1';have q1:=BU (D:=(s.1.1,bW (ar o,(e0,0)) s.1.2)) SL (c:=(aU s (oA o)).1) (q:=(ar o,0)) hva (hs.d.gv va (dw hva)).t n0;have zp:aP u.1.2 (ar o)=some (ar o,(e0,0)):=by rw[e'];exact FZ (ar o,(e0,0)) hn
 have hes:(aP u.1.2 (ar o)).isSome=true:=by rw[zp];rfl
 have x0:=hu.d.gq hes (s:=0) (.inl rfl);have x1:=hu.d.gq hes (s:=1) (.inr rfl);have hD:au (au u.1 (ar o,0)) (ar o,1)=(s.1.1,bW (ar o,(e0,0)) s.1.2):=by rw[zi hu.d.rw x0 x1 (fun k=>by cases k),e',q2,q1]
 have hinv:ib s o=[p7 4 (ar o)]:=by unfold ib;rw[if_neg (by omega),if_neg (by omega),if_pos hk]
 have Ct:bg (p7 4 (ar o))=0:=vn (.inr (.inr rfl)) hi;refine vq (w:=(s.1,bR (bR u.2 ((ar o,0),dB u.1 (ar o,0))) ((ar o,1),dB u.1 (ar o,1)))) hinv ?_ rfl ?_
 ·rw[aio Ct rfl];unfold w8;rw[if_neg (show ¬(b5 u.1 (ar (p7 4 (ar o)))).isSome=false by show ¬(aP u.1.2 (ar o)).isSome=false;rw[hes];simp)];have:aH (au (au u.1 (ar o,0)) (ar o,1)) zI (ar o)=s.1:=by rw[hD];show(bF s.1.1 zI,bH (bW (ar o,(e0,0)) s.1.2) (ar o))=s.1;rw[lK hs.d.gv];have:=xl (ar o,(e0,0)) (l:=s.1.2) hn;exact congrArg (fun l:List aj=>((s.1.1,l):ak)) this
  show((aH (au (au u.1 (ar o,0)) (ar o,1)) zI (ar o),_),_)=_;rw[this];rfl
 ·unfold ib;rw[if_neg (by simp[p7]),if_neg (by simp[p7]),if_neg (by simp[p7]),if_pos (show(p7 4 (ar o)).1=4 from rfl)];unfold xk;have:fJ u.1 (ar (p7 4 (ar o)))=(e0,0):=by unfold fJ;rw[show b5 u.1 (ar (p7 4 (ar o)))=some (ar o,(e0,0)) from zp];rfl
  rw[this,mY];rfl
theorem ads{u:StateT}{y:ab}(h:(bM u.1 y).isSome=true):resolve u y=y:=by unfold resolve;rw[res,if_pos h]
theorem Ik{u:StateT}(h:Rw u.1.1){v:ai}{y:ab}(hv:v∈u.1.1)(hy:y∈v.2.1):aU u (v.1,y)=((v.1,y),(0,())):=by unfold aU;rw[show aG u.1 ((v.1,y):lW).1=some v from dM h.s hv];have hr:resolve u y=y:=ads (by show(E2 u.1.1 y).isSome=true;rw[du h hv hy];rfl);show(((v.1,mT u (v.1,y) v):lW),((0:Int),()))=_;unfold mT;rw[show resolve u ((v.1,y):lW).2=y from hr,if_pos hy]
theorem BW{u:StateT}{v:ai}(hs:cq u.1.1)(hv:v∈u.1.1)(hr:v.2.1=[])(y:ab):aU u (v.1,y)=((v.1,zD),(0,())):=by unfold aU;rw[show aG u.1 ((v.1,y):lW).1=some v from dM hs hv];show(((v.1,mT u (v.1,y) v):lW),((0:Int),()))=_;unfold mT;rw[hr,if_neg (by simp)]
theorem F8{u:StateT}{c:lW}(h:(aO u.1.1 c.1).isSome=true):(aU u c).2.1=0:=by unfold aU aG;obtain⟨v,hv⟩:=abM.1 h;rw[hv]
theorem Il{row:List ab}{x:ab}(hn:row.Nodup)(hx:x∈row)(hp:cr row x=x):bw row x=[]:=by
 have hl:0<row.length:=adI hx;obtain⟨a,h1,h2,_⟩:=eX hx;have ha:=(abg.1 h2).1;have aK:(a+(row.length-1))%row.length<row.length:=adR _ hl;unfold cr cK at hp;rw[if_pos hx,h1,Int.toNat_natCast,List.getElem?_eq_getElem aK]at hp;have h3:row[(a+(row.length-1))%row.length]? = some x:=by rw[List.getElem?_eq_getElem aK];exact congrArg some hp
 have h4:=nr hn h3 h2;have h5:row.length=1:=by
  by_cases k:a=0
  ·rw[k,Nat.zero_add,Nat.mod_eq_of_lt (by omega)]at h4;omega
  ·have e:a+(row.length-1)=(a-1)+row.length:=by omega
   rw[e,Nat.add_mod_right,Nat.mod_eq_of_lt (by omega)]at h4;omega
 have:=(qO hx hn).length_eq;rw[List.length_cons]at this;exact abU (by omega)
theorem MY{row:List ab}{q:ab}(ht:bG row=row)(hq:q∉row):bw row q=row:=by unfold bw;have:(row.filter fun e=>decide (e≠q))=row:=adO.2 fun w hw=>decide_eq_true fun e:w=q=>hq (e▸hw);rw[this,ht]
theorem pG{D:ak}(h:Rw D.1){v:ai}(hv:v∈D.1)(ht:bG v.2.1=v.2.1){q:ab}(hq:q∈an D.1):(v.1,(bw v.2.1 q,v.2.2))∈(au D q).1:=by
 obtain⟨w,hw,TE⟩:=aM.1 hq;rw[db h hw TE];by_cases k:v.1=w.1
 ·have:v=w:=wj h.s hw hv k;subst this;exact abY.2 ⟨v,hv,sq rfl⟩
 ·have hqv:q∉v.2.1:=fun c=>k (congrArg Prod.fst (h.one hw hv TE c));rw[MY ht hqv];exact abY.2 ⟨v,hv,mu k⟩
theorem XW{d:ak}(h:Wf d){v:ai}{x:ab}(hv:v∈d.1)(hx:x∈v.2.1)(fj:ab):zh d x fj=(v.1,if cr (bw v.2.1 fj) x=x then zD else cr (bw v.2.1 fj) x):=by
 have ha:bM d x=some v.1:=du h.rw hv hx;unfold zh;rw[ha];simp only[Option.getD_some];rw[gm h.sv hv]
 split<;>rfl
theorem aiu{s u:StateT}{o:aE}(hs:cS s)(hg:bN s.1=0)(h:(bP s o).2.1=0)(hk:o.1=4)(hu:cS u)(e:u.1=(bP s o).1.1):wu s o u:=by
 have hm:=iU h;have hi:=rY hm;have he:(aP s.1.2 (ar o)).isSome=true:=AY h hk;obtain⟨ed,hed⟩:=abM.1 he;rw[aio hm hk]at h e;unfold w8 at h e;rw[if_neg (by show ¬(aP s.1.2 (ar o)).isSome=false;rw[he];simp)]at h e;obtain⟨x0,hx0⟩:∃x0:ab,x0=(ar o,0):=⟨_,rfl⟩;obtain⟨x1,Ka⟩:∃x1:ab,x1=(ar o,1):=⟨_,rfl⟩;have Oz:x0≠x1:=by rw[hx0,Ka];exact Zv _
 have m0:x0∈an s.1.1:=by rw[hx0];exact hs.d.gq he (.inl rfl)
 have m1:x1∈an s.1.1:=by rw[Ka];exact hs.d.gq he (.inr rfl)
 obtain⟨v,hv,X2⟩:=aM.1 m0;obtain⟨w,hw,Gv⟩:=aM.1 m1;have SL:=hs.d.rw;have tv:=(hs.d.gv v hv).t;have tw:=(hs.d.gv w hw).t;have hc:=zi SL m0 m1 Oz;obtain⟨p0,r0⟩:=c9 SL m0;obtain⟨p1,r1⟩:=c9 SL m1;have m0':x0∈an (au s.1 x1).1:=(abn.1 (p1.mem_iff.1 m0)).resolve_left Oz;have m1':x1∈an (au s.1 x0).1:=(abn.1 (p0.mem_iff.1 m1)).resolve_left (fun k=>Oz k.symm);have e':u.1=((au (au s.1 x1) x0).1,bH s.1.2 (ar o)):=by rw[e];show(bF (au (au s.1 (ar o,0)) (ar o,1)).1 zI,bH s.1.2 (ar o))=_;rw[←hx0,←Ka,lK (iF (iF hs.d.gv x0) x1),hc]
 have hT:u.1.1=(au (au s.1 x1) x0).1:=by rw[e']
 have hT2:u.1.1=(au (au s.1 x0) x1).1:=by rw[hT,hc]
 have v1:(v.1,(bw v.2.1 x1,v.2.2))∈(au s.1 x1).1:=pG SL hv tv m1;have v2:(v.1,(bw (bw v.2.1 x1) x0,v.2.2))∈u.1.1:=by rw[hT];exact pG r1 v1 (vg _ _) m0'
 have w1:(w.1,(bw w.2.1 x0,w.2.2))∈(au s.1 x0).1:=pG SL hw tw m0;have w2:(w.1,(bw (bw w.2.1 x0) x1,w.2.2))∈u.1.1:=by rw[hT2];exact pG r0 w1 (vg _ _) m1'
 have v10:x0∈bw v.2.1 x1:=q7.2 ⟨X2,Oz⟩;have nv1:(bw v.2.1 x1).Nodup:=r1.ring v1;obtain⟨cA,hcA⟩:∃cA,cA=zh s.1 x0 x1:=⟨_,rfl⟩;obtain⟨cB,Zy⟩:∃cB,cB=zh s.1 x1 zD:=⟨_,rfl⟩;have zd:zD∉w.2.1:=fun k=>by obtain⟨f,hf,f1,_⟩:=dr.1 (hs.d.pd.mem_iff.1 (aM.2 ⟨w,hw,k⟩));have:=(hs.d.ge f hf).i;rw[f1]at this;cases this
 have eA:cA=(v.1,if cr (bw v.2.1 x1) x0=x0 then zD else cr (bw v.2.1 x1) x0):=by rw[hcA];exact XW hs.d hv X2 x1
 have eB:cB=(w.1,if cr w.2.1 x1=x1 then zD else cr w.2.1 x1):=by rw[Zy,XW hs.d hw Gv zD,MY tw zd]
 have kA:aU u cA=(cA,(0,())):=by
  rw[eA];by_cases k:cr (bw v.2.1 x1) x0=x0
  ·rw[if_pos k];exact BW (v:=(v.1,(bw (bw v.2.1 x1) x0,v.2.2))) hu.d.sv v2 (Il nv1 v10 k) zD
  ·rw[if_neg k];exact Ik (v:=(v.1,(bw (bw v.2.1 x1) x0,v.2.2))) hu.d.rw v2 (q7.2 ⟨AX v10,k⟩)
 have fB:(aO u.1.1 cB.1).isSome=true:=by rw[eB];show(aO u.1.1 w.1).isSome=true;have:=dM hu.d.sv w2;rw[show aO u.1.1 w.1=_ from this];rfl
 have kB:(if(aG u.1 cB.1).isSome=true∧cB.2=x0 then cB else(aU u cB).1)=cB:=by
  by_cases k0:(aG u.1 cB.1).isSome=true∧cB.2=x0
  ·rw[if_pos k0]
  ·rw[if_neg k0];have k1:cB.2≠x0:=fun k=>k0 ⟨fB,k⟩;rw[eB]at k1 ⊢;by_cases k:cr w.2.1 x1=x1
   ·rw[if_pos k];have Gl:bw (bw w.2.1 x0) x1=[]:=by rw[Ij (SL.ring hw),Il (SL.ring hw) Gv k];have:=fF ([]:List ab);exact List.Perm.eq_nil this
    rw[BW (v:=(w.1,(bw (bw w.2.1 x0) x1,w.2.2))) hu.d.sv w2 Gl zD]
   ·rw[if_neg k]at k1 ⊢;have:=Ik (v:=(w.1,(bw (bw w.2.1 x0) x1,w.2.2))) hu.d.rw w2 (y:=cr w.2.1 x1) (q7.2 ⟨q7.2 ⟨AX Gv,k1⟩,k⟩);rw[this]
 have fA:(aO u.1.1 cA.1).isSome=true:=by rw[eA];show(aO u.1.1 v.1).isSome=true;have:=dM hu.d.sv v2;rw[show aO u.1.1 v.1=_ from this];rfl
 have hn:aP u.1.2 (ar o)=none:=by rw[e'];exact F3 _ _
 have aK:¬40≤u.1.2.length:=by rw[e'];have:=MX (nm hed);rw[kG hed]at this;have:=hs.d.ne;show ¬40≤(bH s.1.2 (ar o)).length;omega
 have hE:bW (ar o,(e0,0)) u.1.2=s.1.2.map (Po true (ar o) e0 0):=by
  rw[e'];have q:=xn (v:=(ar o,(e0,0))) hs.d.se (nm hed) (kG hed);refine(show bW (ar o,(e0,0)) (bH s.1.2 (ar o))=_ from q).trans (acM fun z hz=>?_);unfold Po;by_cases k:z.1=ar o
  ·rw[if_pos k,if_pos ⟨rfl,k⟩,k]
  ·rw[if_neg k,if_neg (fun q=>k q.2)]
 have hV:s.1.1.map (Nh true (ar o) e0 0)=s.1.1:=by
  conv=>rhs;rw[←List.map_id s.1.1]
  exact acM fun z hz=>if_neg (by simp)
 have hD:br (br (u.1.1,bW (ar o,(e0,0)) u.1.2) cA x0) cB x1=oH true (ar o) e0 0 s.1:=by
  have a1:=BV r1 v1 v10 (vg _ _) (bW (ar o,(e0,0)) u.1.2);have a2:br (u.1.1,bW (ar o,(e0,0)) u.1.2) cA x0=((au s.1 x1).1,bW (ar o,(e0,0)) u.1.2):=by rw[eA,hT];exact congrArg (fun l:List ai=>((l,bW (ar o,(e0,0)) u.1.2):ak)) a1
  have b1:=BV SL hw Gv tw (bW (ar o,(e0,0)) u.1.2);rw[a2,eB];unfold oH;rw[hV,←hE];exact congrArg (fun l:List ai=>((l,bW (ar o,(e0,0)) u.1.2):ak)) b1
 have LN:Wf (oH true (ar o) e0 0 s.1):=by rw[←hD,hx0,Ka];exact hu.d.link hi hn aK fA fB
 have v7:bN (oH true (ar o) e0 0 s.1)=0:=FU (Ts true (ar o) e0 0) hs.d LN hg;have hinv:ib s o=mr (ar o) cA cB::bu (ar o) true (fJ s.1 (ar o)).1 (fJ s.1 (ar o)).2:=by unfold ib xk;rw[if_neg (by omega),if_neg (by omega),if_neg (by omega),if_pos hk,hcA,Zy,hx0,Ka]
 have Ct:bg (mr (ar o) cA cB)=0:=by
  refine Ii hi ?_ ?_
  ·rw[hcA];exact C1 hs.d m0 Oz
  ·rw[Zy];exact C1 hs.d m1 (fun k=>zd (by rw[←k];exact Gv))
 have hL:gS u (mr (ar o) cA cB)=oH true (ar o) e0 0 s.1:=by unfold gS;show br (br (u.1.1,bW (ar o,(e0,0)) u.1.2) (aU u cA).1 (ar o,0)) (if(aG u.1 cB.1).isSome=true∧cB.2=(ar o,0) then cB else(aU u cB).1) (ar o,1)=_;rw[←hx0,←Ka,kB,kA];exact hD
 have tp:bP u (mr (ar o) cA cB)=((oH true (ar o) e0 0 s.1,u.2),(0,())):=by rw[ain Ct rfl];unfold kP;rw[if_neg (show ¬(b5 u.1 (ar (mr (ar o) cA cB))).isSome=true by show ¬(aP u.1.2 (ar o)).isSome=true;rw[hn];simp),if_neg aK,if_neg (show ¬(aU u (oA (mr (ar o) cA cB))).2.1≠0 by show ¬(aU u cA).2.1≠0;rw[F8 fA];simp),if_neg (show ¬(aU u (oB (mr (ar o) cA cB))).2.1≠0 by show ¬(aU u cB).2.1≠0;rw[F8 fB];simp),hL,if_neg (by rw[v7];simp)]
 obtain⟨q1,q2⟩:=q6 hs.d (ar o);have hf:sR true (ar o) s.1=true:=by unfold sR;rw[if_pos rfl];exact he
 obtain⟨g1,g2⟩:=ss (w:=(oH true (ar o) e0 0 s.1,u.2)) (oe:=true) rfl hf hi q1 q2;have XV:oH true (ar o) (fJ s.1 (ar o)).1 (fJ s.1 (ar o)).2 s.1=s.1:=zm hs.d.sv hs.d.se true (ar o);refine⟨(s.1,u.2),?_,rfl,?_⟩
 ·rw[hinv,vp tp,g1,XV]
 ·rw[hinv];exact⟨by unfold ib;rw[if_neg (by simp[mr]),if_neg (by simp[mr]),if_pos (show(mr (ar o) cA cB).1=3 from rfl)];rfl,by rw[tp];exact g2⟩
theorem aiv{s u:StateT}{o:aE}(hs:cS s)(h:(bP s o).2.1=0)(hk:7≤o.1)(e:u.1=(bP s o).1.1):wu s o u:=by
 have hm:=iU h;have hi:=rY hm;rw[adr hm hk]at h e;have hf:sR (cQ o) (ar o) s.1=true:=by
  cases k:sR (cQ o) (ar o) s.1 with
  |true=>rfl
  |false=>rw[SU k]at h;cases h
 rw[xe hf]at e;obtain⟨q1,q2⟩:=qZ hs.d (ar o);obtain⟨q3,q4⟩:=q6 hs.d (ar o);have hinv:ib s o=qd s.1 o:=by unfold ib;rw[if_neg (by omega),if_neg (by omega),if_neg (by omega),if_neg (by omega),if_neg (by omega),if_neg (by omega)]
 have hun:=FV hm hk s.1;have hV:∀v,aO s.1.1 (ar o)=some v→cQ o=false→(sr (cQ o) s.1 (ar o))=v.2.2:=fun v hv ho=>by unfold sr dZ aG;rw[ho,if_neg (by simp),hv];rfl
 have hE:∀v,aP s.1.2 (ar o)=some v→cQ o=true→(sr (cQ o) s.1 (ar o))=v.2:=fun v hv ho=>by unfold sr fJ b5;rw[ho,if_pos rfl,hv];rfl
 have Pp:p4 (sr (cQ o) s.1 (ar o)).1=true∧mD (sr (cQ o) s.1 (ar o)).2=true:=by unfold sr;split;exact⟨q3,q4⟩;exact⟨q1,q2⟩
 have fin:∀p:aE,qd s.1 o=[p]→bg p=0→ar p=ar o→cQ p=cQ o→p.1=o.1→gR p=(sr (cQ o) s.1 (ar o)).1∨o.1≠7→oN p=(sr (cQ o) s.1 (ar o)).2∨o.1=7→wu s o u:=fun p hp hmp h1 h2 h3 h4 h5=>by
  have hfu:sR (cQ p) (ar p) u.1=true:=by
   rw[h1,h2,e];unfold sR at hf ⊢;rw[iO (fun v=>(Ig o).i v),AA (JH o)]
   split at hf
   ·rename_i k;rw[if_pos k];simpa using hf
   ·rename_i k;rw[if_neg k];simpa using hf
  have hb:=WK hs (o:=o) (p:=p) h1.symm h2.symm h3.symm (fun v hv ho=>by
    have:=hV v hv ho;refine⟨fun k=>?_,fun k=>?_⟩
    ·rw[h4.resolve_right (fun q=>q k),this]
    ·rw[h5.resolve_right k,this])
   (fun v hv ho=>by
    have:=hE v hv ho;refine⟨fun k=>?_,fun k=>?_⟩
    ·rw[h4.resolve_right (fun q=>q k),this]
    ·rw[h5.resolve_right k,this])
  refine vq (w:=(s.1,u.2)) (hinv.trans hp) ?_ rfl (F7 _ (by rw[h3];exact hk));rw[adr hmp (by rw[h3];exact hk),xe hfu,e];have:=congrArg Prod.fst hb;exact congrArg (fun d:ak=>(((d,u.2),((0:Int),())):StateT×(Int×Unit))) this
 by_cases h7:o.1=7
 ·rw[if_pos h7]at hun;exact fin _ hun (CQ hi Pp.1) rfl rfl h7.symm (.inl rfl) (.inr h7)
 ·rw[if_neg h7]at hun;have:=(jw hm).2;exact fin _ hun (CR hi Pp.2) rfl rfl (show(8:Int)=o.1 by omega) (.inr h7) (.inl rfl)
theorem Im{α:Type}{a:Option α}(h:¬a.isSome=true):a=none:=by
 cases a
 ·rfl
 ·exact absurd rfl h
theorem aiw{s u:StateT}{o:aE}(hs:cS s)(h:(bP s o).2.1=0)(hk:o.1=5)(e:u.1=(bP s o).1.1):wu s o u:=by
 have hm:=iU h;obtain⟨hv,hw,n0,n3⟩:=np hm hk;rw[aip hm hk]at h e;unfold jg at h e
 split at h
 ·cases h
 rename_i h1;rw[if_neg h1]at e
 split at h
 ·cases h
 rename_i h2;rw[if_neg h2]at e
 split at h
 ·cases h
 rename_i h3;rw[if_neg h3]at e
 split at h
 ·cases h
 rename_i h4;rw[if_neg h4]at e
 split at h
 ·cases h
 rename_i h5;rw[if_neg h5]at e;have hx:(aP s.1.2 (ar o)).isSome=true:=nq h1;have Rj:aO s.1.1 (cc o)=none:=Im h2;have bp:aP s.1.2 (af o)=none:=Im h3;obtain⟨s1,s2⟩:=yV n0 n3;obtain⟨m,em⟩:∃m:ab,m=JA o:=⟨_,rfl⟩;obtain⟨k,ek⟩:∃k:ab,k=Gf o:=⟨_,rfl⟩;have hm1:m.1=ar o:=by rw[em];rfl
 have Gn:k.1=af o:=by rw[ek];rfl
 have Me:m∈an s.1.1:=by rw[em];exact hs.d.gq hx s1
 have TN:ag k∉an s.1.1:=by rw[ek];exact hs.d.mV bp _
 have IV:m.1≠k.1:=fun q=>by rw[hm1,Gn]at q;rw[q,bp]at hx;cases hx
 have pS:k.2=0∨k.2=1:=by rw[ek];exact s2
 obtain⟨T,hT⟩:∃T,T=(az s.1 m (ag k)).1:=⟨_,rfl⟩;have hTv:aO T (cc o)=none:=by rw[hT];unfold az Vs.cj;rw[iO (qa _ _),Rj];rfl
 have e':u.1=(cx (cc o,(bG [m,k],(e0,0))) T,bW (af o,(e0,0)) s.1.2):=by rw[e,hT,em,ek];rfl
 have RI:aG u.1 (cc o)=some (cc o,(bG [m,k],(e0,0))):=by rw[e'];exact w9 (cc o,(bG [m,k],(e0,0))) hTv
 have zp:b5 u.1 (af o)=some (af o,(e0,0)):=by rw[e'];exact FZ (af o,(e0,0)) bp
 have hD:GM u (cT (cc o) (af o)) m k=s.1:=by
  unfold GM;have a1:aH u.1 (cc o) zI=(T,bW (af o,(e0,0)) s.1.2):=by
   rw[e'];unfold aH;have q1:bF (cx (cc o,(bG [m,k],(e0,0))) T) (cc o)=T:=rW (cc o,(bG [m,k],(e0,0))) hTv;have q2:bH (bW (af o,(e0,0)) s.1.2) zI=bW (af o,(e0,0)) s.1.2:=kH (fun f hf=>by
    rcases kF.1 hf with rfl|hf
    ·exact⟨hw,lp,lq⟩
    ·exact hs.d.ge f hf)
   show(bF (cx (cc o,(bG [m,k],(e0,0))) T) (cc o),bH (bW (af o,(e0,0)) s.1.2) zI)=_;rw[q1,q2]
  show aH (az (aH u.1 (cc o) zI) (ag k) m) zI k.1=s.1;rw[a1,hT,Gn];unfold aH;have b1:=zj (l:=s.1.1) hs.d.rw Me TN (fun v hv=>(hs.d.gv v hv).t) s.1.2 (bW (af o,(e0,0)) s.1.2);show(bF (az ((az (s.1.1,s.1.2) m (ag k)).1,bW (af o,(e0,0)) s.1.2) (ag k) m).1 zI,bH (bW (af o,(e0,0)) s.1.2) (af o))=s.1;rw[b1,lK hs.d.gv];have:=xl (af o,(e0,0)) (l:=s.1.2) bp;exact congrArg (fun l:List aj=>((s.1.1,l):ak)) this
 have hinv:ib s o=[cT (cc o) (af o)]:=by unfold ib;rw[if_neg (by omega),if_neg (by omega),if_neg (by omega),if_neg (by omega),if_pos hk];rfl
 have Ct:bg (cT (cc o) (af o))=0:=MU hv hw;have hl0:dZ u.1 (cc o)=(e0,0):=by unfold dZ;rw[RI];rfl
 have hl1:fJ u.1 (af o)=(e0,0):=by unfold fJ;rw[zp];rfl
 have ho:bP u (cT (cc o) (af o))=((s.1,HI u.2 m k),(0,())):=by
  rw[aiq Ct rfl];unfold fX;rw[show aG u.1 (ar (cT (cc o) (af o)))=_ from RI];rcases Fp m k with q|q
  ·show(match bG [m,k] with | [r0,r1]=>dH u (cT (cc o) (af o)) r0 r1|_=>(zS,(14,())))=_;rw[q];show dH u (cT (cc o) (af o)) m k=_;unfold dH;rw[if_neg IV,if_neg (show ¬m.1=af (cT (cc o) (af o)) from fun c=>IV (c.trans Gn.symm)),if_pos (show k.1=af (cT (cc o) (af o)) from Gn),hD]
  ·show(match bG [m,k] with | [r0,r1]=>dH u (cT (cc o) (af o)) r0 r1|_=>(zS,(14,())))=_;rw[q];show dH u (cT (cc o) (af o)) k m=_;unfold dH;rw[if_neg (fun c=>IV c.symm),if_pos (show k.1=af (cT (cc o) (af o)) from Gn),hD]
 refine vq (w:=(s.1,HI u.2 m k)) hinv ho rfl ?_;unfold ib;rw[if_neg (by simp[cT]),if_neg (by simp[cT]),if_neg (by simp[cT]),if_neg (by simp[cT]),if_neg (by simp[cT]),if_pos (show(cT (cc o) (af o)).1=6 from rfl)];rw[show aG u.1 (ar (cT (cc o) (af o)))=_ from RI];have len:∀r0 r1,(cF u.1 (cT (cc o) (af o)) r0 r1).length=1:=fun r0 r1=>by unfold cF;show([_]++bu (cc o) false (dZ u.1 (cc o)).1 (dZ u.1 (cc o)).2++bu (af o) true (fJ u.1 (af o)).1 (fJ u.1 (af o)).2).length=1;rw[hl0,hl1,mY,mY];rfl
 rcases Fp m k with q|q
 ·show(match bG [m,k] with | [r0,r1]=>cF u.1 (cT (cc o) (af o)) r0 r1|_=>[]).length=1;rw[q];exact len m k
 ·show(match bG [m,k] with | [r0,r1]=>cF u.1 (cT (cc o) (af o)) r0 r1|_=>[]).length=1;rw[q];exact len k m
theorem aan{p q:Int}(hp:p=0∨p=1)(hq:q=0∨q=1):IntKind.wrap .i64 (1-Int.tmod (1-p+2*q) 2)=p∧IntKind.wrap .i64 (Int.tdiv (1-p+2*q) 2)=q:=by rcases hp with rfl|rfl<;>rcases hq with rfl|rfl<;>exact⟨by decide +kernel,by decide +kernel⟩
theorem Tu{r0 r1:ab}(h:r0≠r1):bG [r1,r0]=bG [r0,r1]:=oD (row:=[r0,r1]) (j:=1) (by simp[h]) (by simp)
theorem aix{s u:StateT}{o:aE}(hs:cS s)(h:(bP s o).2.1=0)(hk:o.1=6)(e:u.1=(bP s o).1.1):wu s o u:=by
 have hm:=iU h;have hi:=rY hm;have ho:=Fj hm hk;obtain⟨v,r0,r1,hv,hr,bp,hor⟩:=vo h hk;rw[aiq hm hk]at h e;have Ce:v∈s.1.1:=dw hv;have Mb:v.1=ar o:=gk hv;obtain⟨a,ha⟩:∃a,a=(um r0 r1 (af o)).1:=⟨_,rfl⟩;obtain⟨b,hb⟩:∃b,b=(um r0 r1 (af o)).2:=⟨_,rfl⟩;have SA:fX s o=((GM s o a b,HI s.2 a b),(0,()))∧b.1=af o∧a.1≠b.1∧((a=r0∧b=r1)∨(a=r1∧b=r0)):=by
  unfold fX;rw[hv];show(match v.2.1 with | [r0,r1]=>dH s o r0 r1|_=>(zS,(14,())))=_∧_;rw[hr];show dH s o r0 r1=_∧_;unfold dH;rw[if_neg bp];by_cases k:r0.1=af o
  ·have:um r0 r1 (af o)=(r1,r0):=if_pos k;rw[if_pos k,ha,hb,this];exact⟨rfl,k,fun q=>bp q.symm,.inr ⟨rfl,rfl⟩⟩
  ·have:um r0 r1 (af o)=(r0,r1):=if_neg k;have k1:=hor.resolve_left k;rw[if_neg k,if_pos k1,ha,hb,this];exact⟨rfl,k1,bp,.inl ⟨rfl,rfl⟩⟩
 obtain⟨SA,Qb,rT,Yc⟩:=SA;rw[SA]at e;have hpm:v.2.1.Perm [a,b]:=by
  rw[hr];rcases Yc with⟨rfl,rfl⟩|⟨rfl,rfl⟩
  ·exact adW _
  ·exact List.Perm.swap _ _ _
 have hav:a∈v.2.1:=hpm.mem_iff.2 (by simp);have hbv:b∈v.2.1:=hpm.mem_iff.2 (by simp);have had:=aM.2 ⟨v,Ce,hav⟩;have hbd:=aM.2 ⟨v,Ce,hbv⟩;have sa:=hs.d.side had;have sb:=hs.d.side hbd;have aop:bG [a,b]=v.2.1:=by
  have Dk:r0≠r1:=fun k=>bp (congrArg Prod.fst k);rw[←(hs.d.gv v Ce).t,hr];rcases Yc with⟨rfl,rfl⟩|⟨rfl,rfl⟩
  ·rfl
  ·exact Tu Dk
 have YS:(aP s.1.2 (af o)).isSome=true:=by obtain⟨f,hf,f1,_⟩:=dr.1 (hs.d.pd.mem_iff.1 hbd);rw[←Qb,←f1,yX hs.d.se hf];rfl
 obtain⟨ed,hed⟩:=abM.1 YS;obtain⟨fa,hfa,fa1,_⟩:=dr.1 (hs.d.pd.mem_iff.1 had);obtain⟨A,B,f1,f2,f3,f4⟩:=mE hs.d.sv Ce;have pd:(an s.1.1).Perm (v.2.1++an (bF s.1.1 v.1)):=by
  rw[f3]
  conv=>lhs;rw[f1]
  exact g6 A B v
 have nd:=acV.1 (pd.nodup_iff.1 hs.d.rw.n);have rw0:Rw (bF s.1.1 v.1):=⟨lh hs.d.sv,nd.2.1⟩;have na:a∉an (bF s.1.1 v.1):=fun q=>nd.2.2 a hav a q rfl;have hy:ag b∈an (bF s.1.1 v.1):=by
  have q:=pd.mem_iff.1 (hs.d.other hbd);rcases abH.1 q with q|q
  ·have:=hpm.mem_iff.1 q;rcases abn.1 this with c|c
   ·exact absurd (congrArg Prod.fst c).symm rT
   ·have c:=List.mem_singleton.1 c;exact absurd c (oG sb)
  ·exact q
 have gv0:∀w∈bF s.1.1 v.1,GV w:=fun w hw=>hs.d.gv w (adC.1 (show w∈s.1.1.filter _ from hw)).1;have e':u.1=((az (bF s.1.1 v.1,s.1.2) (ag b) a).1,bH s.1.2 (af o)):=by
  rw[e];show aH (az (aH s.1 (ar o) zI) (ag b) a) zI b.1=_;have q:aH s.1 (ar o) zI=(bF s.1.1 v.1,s.1.2):=by unfold aH;rw[kH hs.d.ge,Mb]
  rw[q,Qb];unfold aH;rw[lK (oC (d:=(bF s.1.1 v.1,s.1.2)) gv0 _ _)];rfl
 obtain⟨n,hn⟩:∃n,n=1-a.2+2*b.2:=⟨_,rfl⟩;obtain⟨p,hp⟩:∃p,p=fH a.1 (ar o) (af o) n:=⟨_,rfl⟩;have hinv:ib s o=[p]++bu (ar o) false (dZ s.1 (ar o)).1 (dZ s.1 (ar o)).2++bu (af o) true (fJ s.1 (af o)).1 (fJ s.1 (af o)).2:=by
  unfold ib;rw[if_neg (by omega),if_neg (by omega),if_neg (by omega),if_neg (by omega),if_neg (by omega),if_pos hk,hv];show(match v.2.1 with | [r0,r1]=>cF s.1 o r0 r1|_=>[])=_;rw[hr,hp,hn,ha,hb];rfl
 obtain⟨n0,n3⟩:=smN sa sb;have Ct:bg p=0:=by rw[hp,hn];exact uo (by rw[←fa1];exact(hs.d.ge fa hfa).i) hi ho n0 n3
 obtain⟨v1,v2⟩:=aan sa sb;have epM:JA p=a:=by rw[hp,hn];show((a.1,IntKind.wrap .i64 (1-Int.tmod (1-a.2+2*b.2) 2)):ab)=a;rw[v1]
 have epK:Gf p=b:=by rw[hp,hn];show((af o,IntKind.wrap .i64 (Int.tdiv (1-a.2+2*b.2) 2)):ab)=b;rw[v2,←Qb]
 have hD:JB u p=oH false (ar o) e0 0 (oH true (af o) e0 0 s.1):=by
  unfold JB;rw[epM,epK,e'];have q:=zj rw0 hy na (fun w hw=>(gv0 w hw).t) s.1.2 (bH s.1.2 (af o));show(cx (cc p,(bG [a,b],(e0,0))) (az ((az (bF s.1.1 v.1,s.1.2) (ag b) a).1,bH s.1.2 (af o)) a (ag b)).1,bW (af p,(e0,0)) (bH s.1.2 (af o)))=_;rw[q,aop];have e1:cc p=v.1:=by rw[hp,Mb];rfl
  have e2:af p=af o:=by rw[hp];rfl
  rw[e1,e2];have q1:=xm (v:=(v.1,(v.2.1,(e0,0)))) hs.d.sv Ce rfl;have q2:=xn (v:=(af o,(e0,0))) hs.d.se (nm hed) (kG hed);rw[show cx (v.1,(v.2.1,(e0,0))) (bF s.1.1 v.1)=_ from q1,show bW (af o,(e0,0)) (bH s.1.2 (af o))=_ from q2];unfold oH;simp only;rw[List.map_map,List.map_map];congr 1
  ·refine acM fun z hz=>?_;show _=Nh false (ar o) e0 0 (Nh true (af o) e0 0 z);have:Nh true (af o) e0 0 z=z:=if_neg (by simp);rw[this];unfold Nh;by_cases k:z.1=v.1
   ·rw[if_pos k,if_pos ⟨rfl,k.trans Mb⟩,wj hs.d.sv Ce hz k]
   ·rw[if_neg k,if_neg (fun q=>k (q.2.trans Mb.symm))]
  ·refine acM fun z hz=>?_;show _=Po false (ar o) e0 0 (Po true (af o) e0 0 z);have:∀y,Po false (ar o) e0 0 y=y:=fun y=>if_neg (by simp);rw[this];unfold Po;by_cases k:z.1=af o
   ·rw[if_pos k,if_pos ⟨rfl,k⟩,k]
   ·rw[if_neg k,if_neg (fun q=>k q.2)]
 have tp:bP u p=((oH false (ar o) e0 0 (oH true (af o) e0 0 s.1),u.2),(0,())):=by
  have Zp:p.1=5:=by rw[hp];rfl
  rw[aip Ct Zp];unfold jg;have c1:(b5 u.1 (ar p)).isSome=true:=by
   have:fa∈bH s.1.2 (af o):=adC.2 ⟨hfa,decide_eq_true (fun q=>rT (by rw[←fa1,Qb];exact q))⟩;have bV:ar p=fa.1:=by rw[hp,fa1];rfl
   rw[bV,e'];show(aP (bH s.1.2 (af o)) fa.1).isSome=true;rw[yX (rX hs.d.se) this];rfl
  have c2:aG u.1 (cc p)=none:=by
   have bV:cc p=v.1:=by rw[hp,Mb];rfl
   rw[bV,e'];show aO (az (bF s.1.1 v.1,s.1.2) (ag b) a).1 v.1=none;unfold az Vs.cj;rw[iO (qa _ _),F2];rfl
  have c3:b5 u.1 (af p)=none:=by
   have bV:af p=af o:=by rw[hp];rfl
   rw[bV,e'];exact F3 _ _
  have c4:¬24≤u.1.1.length:=by rw[e'];show ¬24≤(az (bF s.1.1 v.1,s.1.2) (ag b) a).1.length;unfold az;rw[fO];have:=MW Ce;have:=hs.d.nv;show ¬24≤(bF s.1.1 v.1).length;omega
  have c5:¬40≤u.1.2.length:=by rw[e'];have:=MX (nm hed);rw[kG hed]at this;have:=hs.d.ne;show ¬40≤(bH s.1.2 (af o)).length;omega
  rw[if_neg (by rw[c1];simp),c2,c3,if_neg (by simp),if_neg (by simp),if_neg c4,if_neg c5,hD]
 have aiy:(ib u p).length=1:=by
  unfold ib;have k:p.1=5:=by rw[hp];rfl
  rw[if_neg (by omega),if_neg (by omega),if_neg (by omega),if_neg (by omega),if_pos k];rfl
 obtain⟨q1,q2⟩:=qZ hs.d (ar o);obtain⟨q3,q4⟩:=q6 hs.d (af o);have hfE:sR true (af o) s.1=true:=by unfold sR;rw[if_pos rfl];exact YS
 have hfV:sR false (ar o) (oH true (af o) e0 0 s.1)=true:=by rw[Rb];unfold sR;rw[if_neg (by simp)];show(aG s.1 (ar o)).isSome=true;rw[hv];rfl
 obtain⟨g1,g2⟩:=ss (w:=(oH false (ar o) e0 0 (oH true (af o) e0 0 s.1),u.2)) (oe:=false) rfl hfV hi q1 q2;have adt:oH false (ar o) (dZ s.1 (ar o)).1 (dZ s.1 (ar o)).2 (oH true (af o) e0 0 s.1)=oH true (af o) e0 0 s.1:=by
  have WL:cq (oH true (af o) e0 0 s.1).1:=hs.d.sv.map (J6 true (af o) e0 0);have Yx:dA (oH true (af o) e0 0 s.1).2:=hs.d.se.map (J7 true (af o) e0 0);have q:=zm WL Yx false (ar o);have:sr false (oH true (af o) e0 0 s.1) (ar o)=dZ s.1 (ar o):=by
   unfold sr dZ aG;rw[if_neg (by simp)];have:(oH true (af o) e0 0 s.1).1=s.1.1:=by
    show s.1.1.map (Nh true (af o) e0 0)=s.1.1
    conv=>rhs;rw[←List.map_id s.1.1]
    exact acM fun z hz=>if_neg (by simp)
   rw[this]
  rw[this]at q;exact q
 rw[adt]at g1;obtain⟨g3,g4⟩:=ss (w:=(oH true (af o) e0 0 s.1,u.2)) (oe:=true) rfl hfE ho q3 q4;have adu:oH true (af o) (fJ s.1 (af o)).1 (fJ s.1 (af o)).2 s.1=s.1:=zm hs.d.sv hs.d.se true (af o);rw[adu]at g3;have g0:ji [p] u=((oH false (ar o) e0 0 (oH true (af o) e0 0 s.1),u.2),(0,())):=vp tp;have g01:=(F6 (b:=bu (ar o) false (dZ s.1 (ar o)).1 (dZ s.1 (ar o)).2) g0).trans g1;refine⟨(s.1,u.2),?_,rfl,?_⟩
 ·rw[hinv,F6 g01,g3]
 ·rw[hinv];exact zk g01 (zk g0 ⟨aiy,trivial⟩ g2) g4
theorem aiz{s u:StateT}{o:aE}(hs:cS s)(hg:bN s.1=0)(h:(bP s o).2.1=0)(hu:cS u)(e:u.1=(bP s o).1.1):wu s o u:=by
 obtain⟨k1,k8⟩:=jw (iU h);by_cases h1:o.1=1;· exact air hs h h1 e
 by_cases h2:o.1=2;· exact ais hs h h2 e
 by_cases h3:o.1=3;· exact ait hs h h3 hu e
 by_cases h4:o.1=4;· exact aiu hs hg h h4 hu e
 by_cases h5:o.1=5;· exact aiw hs h h5 e
 by_cases h6:o.1=6;· exact aix hs h h6 e
 exact aiv hs h (by omega) e
theorem Io:∀(l:List aE) {s u t:StateT} (acc:List aE),cS s→bN s.1=0→ji l s=(t,(0,()))→cS u→u.1=t.1 → ∃w,cS w∧w.1=s.1∧ji (mX l s acc) u=ji acc w∧(F5 acc w→F5 (mX l s acc) u)
 |[],s,u,t,acc,hs,hg,h,hu,e=>⟨u,hu,by
  have q:s=t:=congrArg Prod.fst h;rw[e,q],rfl,fun k=>k⟩
 |o::r,s,u,t,acc,hs,hg,h,hu,e=>by
  have h0:(ji (o::r) s).2.1=0:=by rw[h]
  obtain⟨h1,h2,h3⟩:=go_step h0
  rw[h3]at h;obtain⟨w,hw,we,wg,wo⟩:=Io r (qY s o++acc) (hs.one o) (MN hs hg o) h hu e;have hp:qY s o=ib s o:=by unfold qY;rw[if_neg (by simp[h1])]
  obtain⟨z,z1,z2,z3⟩:=aiz hs hg h1 hw we;have hz:cS z:=by have:=cS.go (ib s o) hw;rw[z1]at this;exact this
  rw[hp]at wg wo;refine⟨z,hz,z2,?_,fun k=>?_⟩
  ·show ji (mX r (bP s o).1 (qY s o++acc)) u=_;rw[hp,wg,F6 z1]
  ·show F5 (mX r (bP s o).1 (qY s o++acc)) u;rw[hp];exact wo (zk z1 z3 k)
end Go.Vs
